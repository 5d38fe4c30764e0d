/- The document's Set, Drop: onionskinref12.Set, Drop. -/
import Derived.Test.YtjopikfkgjbcgaaDoorOp
import Derived.Test.YtjopikfkgjbcgaaDoorLast
namespace Go.Proofs.YtjopikfkgjbcgaaDoor
set_option linter.unnecessarySimpa false
set_option linter.unusedSimpArgs false
set_option linter.unusedVariables false
open Go.RowKit
theorem Js.bel {h h' : Heap} {base N : Nat} {a : Option Addr} {cap : Nat} {l : List JV} (x : Js h base a cap l) (k : Bel N h h') (hN : ∀ sb, a = some ⟨sb, 0, none⟩ → sb < N) : Js h' base a cap l :=
  ⟨x.1.keep fun j hj => k.old j (by
    rcases x.blk with ⟨e1, _⟩ | ⟨g, e1, _, _⟩
    · subst e1; cases hj
    · have := hN g e1; subst e1; cases hj; omega), x.2⟩
theorem Js.take {h : Heap} {base : Nat} {a : Option Addr} {cap : Nat} {l : List JV} (x : Js h base a cap l) (n : Nat) (hl : l ≠ []) : Js h base a cap (l.take n) := by
  rcases x.blk with ⟨_, q⟩ | ⟨g, rfl, hg, _⟩
  · exact absurd q hl
  · obtain ⟨cur, h1, h2, h3⟩ := x.blkAt
    have hn := x.2
    refine Js.of_blk h1 h2 ?_ hg (by rw [List.length_take]; omega) x.capLe
    have h4 := congrArg (List.take ((l.take n).length * 4)) h3
    rw [List.take_take, Nat.min_eq_left (by rw [List.length_take]; omega)] at h4
    have e : flJ l = flJ (l.take n) ++ flJ (l.drop n) := by rw [← flJ_append, List.take_append_drop]
    have e4 : (flJ (l.take n)).length = (l.take n).length * 4 := flJ_len _
    rw [h4, e, List.take_append_of_le_length (Nat.le_of_eq e4.symm), List.take_of_length_le (Nat.le_of_eq e4)]
/-- A row that is handed back if it is right. -/
theorem fineJ_ch (h : Heap) (l : List JV) (a : Option Addr) (base n cap : Nat) (hn : n = l.length) (hJ : Js h base a cap l) (hl : l.length ≤ 100000) (hOk : OkJ l) :
    CH Tryd.prog 45 #[.slice a n cap] h fun v h' => (∃ a' c', v = .slice a' (wholeO l).length c' ∧ Js h' base a' c' (wholeO l)) ∧ Ext h h' :=
  (fine_ch h l a n cap hn hJ.jvs hl hOk).mono fun v h' ⟨q, X⟩ => ⟨by
    subst hn
    unfold wholeO
    cases hr : rightO l with
    | true => rw [hr] at q; exact ⟨a, cap, q, hJ.ext X⟩
    | false => rw [hr] at q; exact ⟨none, 0, q, Js.start _ _⟩, X⟩
theorem right_validkey {l : List JV} (h : rightO l = true) {x : JV} (hx : x ∈ l) : validO x.2.1 = true := ((rightO_iff l).1 h).2.keys x hx
/-- A key that is not valid is no one's. -/
theorem get_valid {l : List JV} {key : List UInt8} (h : rightO l = true) (hk : validO key = false) : getO l 0 key = -1 := by
  unfold getO
  rw [List.find?_eq_none.2 fun k hk' => ?_]
  have hlt := places_lt hk'
  intro q
  have q : keyAt l k = key := by simpa using q
  have hm : k.toNat < l.length := by omega
  have := right_validkey h (List.getElem_mem hm)
  unfold keyAt at q
  rw [List.getD_eq_getElem?_getD, List.getElem?_eq_getElem hm] at q
  rw [show (l[k.toNat]).2.1 = key from q, hk] at this
  cases this
theorem set_valid {l v : List JV} {key : List UInt8} (hk : validO key = false) : setO l key v = [] := by
  by_cases hc : objO l = false ∨ rightO v = false
  · unfold setO; rw [if_pos hc]
  · have ho : objO l = true := by
      cases q : objO l with
      | true => rfl
      | false => exact absurd (.inl q) hc
    have hv : rightO v = true := by
      cases q : rightO v with
      | true => rfl
      | false => exact absurd (.inr q) hc
    have hl : rightO l = true := by
      unfold objO at ho
      rw [Bool.and_eq_true] at ho
      exact ho.1
    unfold setO
    rw [if_neg hc, get_valid hl hk, if_neg (by decide)]
    unfold wholeO
    rw [if_neg]
    intro hr
    obtain ⟨x, r, rfl⟩ : ∃ x r, v = x :: r := by
      cases v with
      | nil => exact absurd rfl (right_ne hv)
      | cons x r => exact ⟨x, r, rfl⟩
    obtain ⟨y, s, rfl⟩ : ∃ y s, l = y :: s := by
      cases l with
      | nil => exact absurd rfl (right_ne hl)
      | cons y s => exact ⟨y, s, rfl⟩
    have := right_validkey hr (x := (x.1, key, x.2.2)) (by simp [plusC, namedO])
    rw [hk] at this
    cases this
set_option maxRecDepth 10000 in
set_option maxHeartbeats 2000000 in
theorem setR_ch (h : Heap) (l v0 : List JV) (a va : Option Addr) (n cap vn vc : Nat) (key : List UInt8) (hn : n = l.length) (hcap : l.length ≤ cap) (hvn : vn = v0.length) (hB : Jvs h a l) (hV : Jvs h va v0) (hl : l.length ≤ 10000) (hvl : v0.length ≤ 10000) (hOk : OkJ l) (hOv : OkJ v0) (hk : key.length ≤ 140737488355328) :
    CH Tryd.prog 22 #[.slice a n cap, .string (strOf key), .slice va vn vc] h fun v h' => ∃ a' c', v = .slice a' (setO l key v0).length c' ∧ Js h' h.size a' c' (setO l key v0) ∧ Ext h h' := by
  subst hn hvn
  refine CH.of_body Tryd.func22 rfl rfl rfl ?_
  intro f hf
  have p0 : f 0 = .slice a l.length cap := by rw [hf]; exact fr0_at rfl
  have p1 : f 1 = .string (strOf key) := by rw [hf]; exact fr0_at rfl
  have p2 : f 2 = .slice va v0.length vc := by rw [hf]; exact fr0_at rfl
  have hVc : ∀ u, CH Tryd.prog 44 #[.string (strOf key)] u fun v h' => v = .bool (validO key) ∧ u = h' := fun u => (validR_ch u key (by omega)).mono fun _ _ ⟨q1, q2⟩ => ⟨q1, q2.symm⟩
  -- region 0
  repeat refine HW.seq ?_
  refine HW.region ?_
  refine HL.still (Runs.assign rfl) ?_
  intro u6 e6
  refine HL.nil ?_
  -- region 1
  repeat refine HW.seq ?_
  refine HW.region ?_
  refine HL.still (Runs.move p2) ?_
  intro u13 e13
  refine HL.one (HO.call Tryd.func43 bd43 nm43 (args1 e13) rfl ((rightT_ch h v0 va v0.length vc rfl hV (by omega) hOv).mono ?_))
  rintro _ h2 ⟨rfl, X2⟩
  intro u14 e14
  refine HL.still (Runs.assign e14) ?_
  intro u7 e7
  refine HL.nil ?_
  have g7 := e7
  -- region 2
  repeat refine HW.seq ?_
  refine HW.region ?_
  refine HL.still (Runs.move p0) ?_
  intro u15 e15
  refine HL.one (HO.call Tryd.func43 bd43 nm43 (args1 e15) rfl ((rightT_ch h2 l a l.length cap rfl (hB.ext X2) (by omega) hOk).mono ?_))
  rintro _ h3 ⟨rfl, X3⟩
  intro u16 e16
  refine HL.still (Runs.assign e16) ?_
  intro u8 e8
  refine HL.nil ?_
  have g8 := e8
  have X03 : Ext h h3 := X2.ext X3 (Nat.le_refl _)
  have hB3 := hB.ext X03
  -- region 3
  repeat refine HW.seq ?_
  refine HW.region ?_
  refine HL.still (Runs.move p1) ?_
  intro u17 e17
  refine HL.one (HO.call Tryd.func44 bd44 nm44 (args1 e17) rfl ((hVc h3).mono ?_))
  rintro _ h4 ⟨rfl, rfl⟩
  intro u18 e18
  refine HL.still (Runs.assign e18) ?_
  intro u9 e9
  refine HL.nil ?_
  have g9 := e9
  refine HW.seq ?_
  refine HW.mono (N := fun f v => objO l = true ∧ rightO v0 = true ∧ validO key = true ∧ f 0 = .slice a l.length cap ∧ f 1 = .string (strOf key) ∧ f 2 = .slice va v0.length vc ∧ h3 = v) ?_ ?_ (fun _ _ _ q => q) (fun _ _ q => q)
  · repeat refine HW.seq ?_
    have bad : setO l key v0 = [] → ∀ f' : St, f' 6 = .slice none 0 0 → RT Tryd.prog Tryd.f22 (fun v h' => ∃ a' c', v = .slice a' (setO l key v0).length c' ∧ Js h' h.size a' c' (setO l key v0) ∧ Ext h h') f' h3 := fun hs f' q => RT.one rfl q ⟨none, 0, by rw [hs]; rfl, by rw [hs]; exact Js.start _ _, X03⟩
    cases hrv : rightO v0 with
    | false =>
      rw [hrv] at g7
      have hs : setO l key v0 = [] := by unfold setO; rw [if_pos (.inr hrv)]
      -- region 4
      repeat refine HW.seq ?_
      refine HW.region ?_
      refine HL.still (Runs.move g7) ?_
      intro u19 e19
      refine HL.still (Runs.notb e19 (u := true) rfl) ?_
      intro u20 e20
      refine HL.still (Runs.move e20) ?_
      intro u21 e21
      refine HL.skipG rfl rfl e21 ?_
      intro u22 e22
      refine HL.skipG rfl rfl e21 ?_
      intro u23 e23
      refine HL.still (Runs.pick e21 rfl) ?_
      intro u24 e24
      refine HL.still (Runs.move e24) ?_
      intro u25 e25
      refine HL.skipG rfl rfl e25 ?_
      intro u26 e26
      refine HL.skipG rfl rfl e25 ?_
      intro u27 e27
      refine HL.still (Runs.pick e25 rfl) ?_
      intro u28 e28
      refine HL.still (Runs.move e28) ?_
      intro u29 e29
      refine HL.skipG rfl rfl e29 ?_
      intro u30 e30
      refine HL.skipG rfl rfl e29 ?_
      intro u31 e31
      refine HL.skipG rfl rfl e29 ?_
      intro u32 e32
      refine HL.skipG rfl rfl e29 ?_
      intro u33 e33
      refine HL.skipG rfl rfl e29 ?_
      intro u34 e34
      refine HL.still (Runs.pick e29 rfl) ?_
      intro u35 e35
      refine HL.nil ?_
      refine HW.yes e35 ?_
      -- region 5
      repeat refine HW.seq ?_
      refine HW.region ?_
      refine HL.still (Runs.assign rfl) ?_
      intro u6 e6
      refine HL.nil ?_
      exact HW.ret (bad hs _ e6)
    | true =>
      rw [hrv] at g7
      cases hrl : rightO l with
      | false =>
        rw [hrl] at g8
        have hs : setO l key v0 = [] := by unfold setO objO; rw [hrl]; simp
        -- region 4
        repeat refine HW.seq ?_
        refine HW.region ?_
        refine HL.still (Runs.move g7) ?_
        intro u19 e19
        refine HL.still (Runs.notb e19 (u := false) rfl) ?_
        intro u20 e20
        refine HL.still (Runs.move e20) ?_
        intro u21 e21
        refine HL.stillG rfl rfl e21 (Runs.move g8) ?_
        intro u22 e22
        refine HL.stillG rfl rfl e21 (Runs.notb e22 (u := true) rfl) ?_
        intro u23 e23
        refine HL.still (Runs.pick e21 e23) ?_
        intro u24 e24
        refine HL.still (Runs.move e24) ?_
        intro u25 e25
        refine HL.skipG rfl rfl e25 ?_
        intro u26 e26
        refine HL.skipG rfl rfl e25 ?_
        intro u27 e27
        refine HL.still (Runs.pick e25 rfl) ?_
        intro u28 e28
        refine HL.still (Runs.move e28) ?_
        intro u29 e29
        refine HL.skipG rfl rfl e29 ?_
        intro u30 e30
        refine HL.skipG rfl rfl e29 ?_
        intro u31 e31
        refine HL.skipG rfl rfl e29 ?_
        intro u32 e32
        refine HL.skipG rfl rfl e29 ?_
        intro u33 e33
        refine HL.skipG rfl rfl e29 ?_
        intro u34 e34
        refine HL.still (Runs.pick e29 rfl) ?_
        intro u35 e35
        refine HL.nil ?_
        refine HW.yes e35 ?_
        -- region 5
        repeat refine HW.seq ?_
        refine HW.region ?_
        refine HL.still (Runs.assign rfl) ?_
        intro u6 e6
        refine HL.nil ?_
        exact HW.ret (bad hs _ e6)
      | true =>
        rw [hrl] at g8
        cases hvk : validO key with
        | false =>
          rw [hvk] at g9
          have hs : setO l key v0 = [] := set_valid hvk
          -- region 4
          repeat refine HW.seq ?_
          refine HW.region ?_
          refine HL.still (Runs.move g7) ?_
          intro u19 e19
          refine HL.still (Runs.notb e19 (u := false) rfl) ?_
          intro u20 e20
          refine HL.still (Runs.move e20) ?_
          intro u21 e21
          refine HL.stillG rfl rfl e21 (Runs.move g8) ?_
          intro u22 e22
          refine HL.stillG rfl rfl e21 (Runs.notb e22 (u := false) rfl) ?_
          intro u23 e23
          refine HL.still (Runs.pick e21 e23) ?_
          intro u24 e24
          refine HL.still (Runs.move e24) ?_
          intro u25 e25
          refine HL.stillG rfl rfl e25 (Runs.move g9) ?_
          intro u26 e26
          refine HL.stillG rfl rfl e25 (Runs.notb e26 (u := true) rfl) ?_
          intro u27 e27
          refine HL.still (Runs.pick e25 e27) ?_
          intro u28 e28
          refine HL.still (Runs.move e28) ?_
          intro u29 e29
          refine HL.skipG rfl rfl e29 ?_
          intro u30 e30
          refine HL.skipG rfl rfl e29 ?_
          intro u31 e31
          refine HL.skipG rfl rfl e29 ?_
          intro u32 e32
          refine HL.skipG rfl rfl e29 ?_
          intro u33 e33
          refine HL.skipG rfl rfl e29 ?_
          intro u34 e34
          refine HL.still (Runs.pick e29 rfl) ?_
          intro u35 e35
          refine HL.nil ?_
          refine HW.yes e35 ?_
          -- region 5
          repeat refine HW.seq ?_
          refine HW.region ?_
          refine HL.still (Runs.assign rfl) ?_
          intro u6 e6
          refine HL.nil ?_
          exact HW.ret (bad hs _ e6)
        | true =>
          rw [hvk] at g9
          have hpos := List.length_pos_iff.2 (right_ne hrl)
          obtain ⟨sb, so, rfl, hc⟩ := hB3.at hpos
          have hhd : l.headD zJ = l.getD 0 zJ := by cases l <;> rfl
          obtain ⟨x, hx⟩ : ∃ x, x = l.getD 0 zJ := ⟨_, rfl⟩
          rw [← hx] at hc hhd
          have hc0 : cellH h3 sb so = some (I64 x.1) := by have := hc 0 _ rfl; simpa using this
          have hob : objO l = isObj x := by unfold objO; rw [hrl, hhd]; rfl
          by_cases h6 : x.1 = 6
          · have ho : objO l = true := by rw [hob]; unfold isObj; exact decide_eq_true h6
            -- region 4
            repeat refine HW.seq ?_
            refine HW.region ?_
            refine HL.still (Runs.move g7) ?_
            intro u19 e19
            refine HL.still (Runs.notb e19 (u := false) rfl) ?_
            intro u20 e20
            refine HL.still (Runs.move e20) ?_
            intro u21 e21
            refine HL.stillG rfl rfl e21 (Runs.move g8) ?_
            intro u22 e22
            refine HL.stillG rfl rfl e21 (Runs.notb e22 (u := false) rfl) ?_
            intro u23 e23
            refine HL.still (Runs.pick e21 e23) ?_
            intro u24 e24
            refine HL.still (Runs.move e24) ?_
            intro u25 e25
            refine HL.stillG rfl rfl e25 (Runs.move g9) ?_
            intro u26 e26
            refine HL.stillG rfl rfl e25 (Runs.notb e26 (u := false) rfl) ?_
            intro u27 e27
            refine HL.still (Runs.pick e25 e27) ?_
            intro u28 e28
            refine HL.still (Runs.move e28) ?_
            intro u29 e29
            refine HL.stillG rfl rfl e29 (Runs.move p0) ?_
            intro u30 e30
            refine HL.stillG rfl rfl e29 (Runs.ixSl (o' := so) Tryd.underlying22 sz37 e30 rfl (by omega) (by omega) (by omega)) ?_
            intro u31 e31
            refine HL.stillG rfl rfl e29 (Runs.fld (o' := so) Tryd.underlying37 rfl sz3 (by decide) e31 (by first | rfl | omega)) ?_
            intro u32 e32
            refine HL.stillG rfl rfl e29 (Runs.load Tryd.underlying3 rfl e32 hc0) ?_
            intro u33 e33
            refine HL.stillG rfl rfl e29 (Runs.neq e33 rfl (t := false) (by simp [h6])) ?_
            intro u34 e34
            refine HL.still (Runs.pick e29 e34) ?_
            intro u35 e35
            refine HL.nil ?_
            refine HW.no e35 ?_
            refine HW.skip ?_
            exact ⟨ho, rfl, rfl, p0, p1, p2, rfl⟩
          · have ho : objO l = false := by rw [hob]; unfold isObj; exact decide_eq_false h6
            have hs : setO l key v0 = [] := by unfold setO; rw [if_pos (.inl ho)]
            -- region 4
            repeat refine HW.seq ?_
            refine HW.region ?_
            refine HL.still (Runs.move g7) ?_
            intro u19 e19
            refine HL.still (Runs.notb e19 (u := false) rfl) ?_
            intro u20 e20
            refine HL.still (Runs.move e20) ?_
            intro u21 e21
            refine HL.stillG rfl rfl e21 (Runs.move g8) ?_
            intro u22 e22
            refine HL.stillG rfl rfl e21 (Runs.notb e22 (u := false) rfl) ?_
            intro u23 e23
            refine HL.still (Runs.pick e21 e23) ?_
            intro u24 e24
            refine HL.still (Runs.move e24) ?_
            intro u25 e25
            refine HL.stillG rfl rfl e25 (Runs.move g9) ?_
            intro u26 e26
            refine HL.stillG rfl rfl e25 (Runs.notb e26 (u := false) rfl) ?_
            intro u27 e27
            refine HL.still (Runs.pick e25 e27) ?_
            intro u28 e28
            refine HL.still (Runs.move e28) ?_
            intro u29 e29
            refine HL.stillG rfl rfl e29 (Runs.move p0) ?_
            intro u30 e30
            refine HL.stillG rfl rfl e29 (Runs.ixSl (o' := so) Tryd.underlying22 sz37 e30 rfl (by omega) (by omega) (by omega)) ?_
            intro u31 e31
            refine HL.stillG rfl rfl e29 (Runs.fld (o' := so) Tryd.underlying37 rfl sz3 (by decide) e31 (by first | rfl | omega)) ?_
            intro u32 e32
            refine HL.stillG rfl rfl e29 (Runs.load Tryd.underlying3 rfl e32 hc0) ?_
            intro u33 e33
            refine HL.stillG rfl rfl e29 (Runs.neq e33 rfl (t := true) (by simpa using h6)) ?_
            intro u34 e34
            refine HL.still (Runs.pick e29 e34) ?_
            intro u35 e35
            refine HL.nil ?_
            refine HW.yes e35 ?_
            -- region 5
            repeat refine HW.seq ?_
            refine HW.region ?_
            refine HL.still (Runs.assign rfl) ?_
            intro u6 e6
            refine HL.nil ?_
            exact HW.ret (bad hs _ e6)
  clear p0 p1 p2 g7 g8 g9 e7 e8 e9
  rintro f v ⟨ho, hr, hvk, p0, p1, p2, rfl⟩
  have hrl : rightO l = true := by
    have := ho
    unfold objO at this
    rw [Bool.and_eq_true] at this
    exact this.1
  have hlp : 0 < l.length := List.length_pos_iff.2 (right_ne hrl)
  have hnl : (namedO v0 key).length = v0.length := namedO_len _ _
  have hG := getR_ch h3 l a l.length cap 0 key rfl hB3 (by omega) hOk
  have hgr := getO_range l 0 key
  have hV3 := hV.ext X03
  by_cases hk0 : getO l 0 key ≥ 0
  · obtain ⟨k, hkE⟩ : ∃ k : Nat, getO l 0 key = k := ⟨(getO l 0 key).toNat, by omega⟩
    have hkl : k < l.length := by omega
    obtain ⟨hE1, hE2⟩ := endO_right hrl hkl
    obtain ⟨E, hE⟩ : ∃ E : Nat, endO l (k : Nat) = E := ⟨(endO l (k : Nat)).toNat, by omega⟩
    have hs : setO l key v0 = wholeO (l.take k ++ (namedO v0 key ++ l.drop E)) := by
      unfold setO
      rw [if_neg (by rw [ho, hr]; simp), if_pos hk0, hkE, hE]
      rfl
    rw [hE] at hE1 hE2
    rw [hkE] at hG
    have htl : (l.take k).length = k := by rw [List.length_take]; omega
    have hdl : (l.drop E).length = l.length - E := List.length_drop
    have hflen : ((l.take k ++ namedO v0 key) ++ l.drop E).length ≤ 100000 := by rw [List.length_append, List.length_append, htl, hdl, hnl]; omega
    have hOkC : OkJ ((l.take k ++ namedO v0 key) ++ l.drop E) := ((hOk.take k).append (hOv.named hk)).append (hOk.drop E)
    -- region 6
    repeat refine HW.seq ?_
    refine HW.region ?_
    refine HL.still (Runs.move p0) ?_
    intro u36 e36
    refine HL.still (Runs.move p1) ?_
    intro u37 e37
    refine HL.one (HO.call Tryd.func20 bd20 nm20 (args3 e36 rfl e37) rfl ((hG).mono ?_))
    rintro _ h5 ⟨rfl, X5⟩
    intro u38 e38
    refine HL.still (Runs.assign e38) ?_
    intro u10 e10
    refine HL.nil ?_
    have g10 := e10
    have X05 : Ext h h5 := X03.ext X5 (Nat.le_refl _)
    have hB5 := hB.ext X05
    have hA : ∀ u, Ext h5 u → Jvs u (if cap = 0 then a else a.map (·.add (0 * 4))) (l.take k) := fun u X => by
      have := ((hB5.ext X).take k).drop (a' := _) (cap := cap) 0 (by rw [List.length_take]; omega) (Nat.zero_le _) rfl
      rwa [List.drop_zero] at this
    -- region 7
    repeat refine HW.seq ?_
    refine HW.region ?_
    refine HL.still (Runs.move g10) ?_
    intro u39 e39
    refine HL.still (Runs.geq e39 rfl (t := true) (decide_eq_true (by omega))) ?_
    intro u40 e40
    refine HL.nil ?_
    refine HW.yes e40 ?_
    -- region 8
    repeat refine HW.seq ?_
    refine HW.region ?_
    refine HL.one (HO.jv0 ?_)
    intro h6 w6
    intro u41 e41
    refine HL.still (Runs.move p0) ?_
    intro u42 e42
    refine HL.still (Runs.move g10) ?_
    intro u43 e43
    refine HL.still (Runs.sliceSl Tryd.underlying22 sz37 e42 (lo := 0) (hi := k) rfl ⟨_, e43⟩ (Nat.zero_le _) (by omega) rfl) ?_
    intro u44 e44
    refine HL.one (HO.dapp e41 e44 rfl htl.symm (Js.lit (l := []) w6 (Nat.le_refl _) (Nat.zero_le _)) (hA _ w6.ext) (by simp; omega) (by rw [w6.size]; omega) ?_)
    intro a7 c7 h7 J7 G7
    intro u45 e45
    refine HL.still (Runs.assign e45) ?_
    intro u11 e11
    refine HL.nil ?_
    have X7 : Ext h5 h7 := G7.belJ w6.ext (Js.lit (l := []) w6 (Nat.le_refl _) (Nat.zero_le _)) (Nat.le_refl _) (Nat.le_refl _)
    have J7 : Js h7 h5.size a7 c7 (l.take k) := J7
    have g11 : u11 = .slice a7 (l.take k).length c7 := e11
    have X07 : Ext h h7 := X05.ext X7 (Nat.le_refl _)
    -- region 9
    repeat refine HW.seq ?_
    refine HW.region ?_
    refine HL.still (Runs.move g11) ?_
    intro u46 e46
    refine HL.still (Runs.move p2) ?_
    intro u47 e47
    refine HL.still (Runs.move p1) ?_
    intro u48 e48
    refine HL.one (HO.call Tryd.func41 bd41 nm41 (args2 e47 e48) rfl ((namedR_ch h7 v0 va v0.length vc key rfl (hV.ext X07) (by omega)).mono ?_))
    rintro _ h8 ⟨a8, c8, rfl, J8, X8⟩
    intro u49 e49
    refine HL.one (HO.dapp e46 e49 rfl rfl (J7.ext X8) J8.jvs (by rw [htl, hnl]; omega) (Nat.le_trans X7.size X8.size) ?_)
    intro a9 c9 h9 J9 G9
    intro u50 e50
    refine HL.still (Runs.assign e50) ?_
    intro u11 e11
    refine HL.nil ?_
    have X9 : Ext h5 h9 := G9.belJ (X7.ext X8 (Nat.le_refl _)) (J7.ext X8) (Nat.le_refl _) (Nat.le_refl _)
    have g11 := e11
    have X09 : Ext h h9 := X05.ext X9 (Nat.le_refl _)
    have hEnd := (endR_ch h9 l a l.length cap (k : Nat) rfl (hB.ext X09) (by omega)).mono (K' := fun v h' => v = I64 (E : Nat) ∧ h9 = h') fun _ _ ⟨q1, q2⟩ => ⟨by rw [q1, hE], q2.symm⟩
    have hD : Jvs h9 (if cap = E then a else a.map (·.add (E * 4))) (l.drop E) := (hB.ext X09).drop E hcap (by omega) rfl
    have hlC : (l.take k ++ namedO v0 key).length = k + v0.length := by rw [List.length_append, htl, hnl]
    -- region 10
    repeat refine HW.seq ?_
    refine HW.region ?_
    refine HL.still (Runs.move g11) ?_
    intro u51 e51
    refine HL.still (Runs.move p0) ?_
    intro u52 e52
    refine HL.still (Runs.move p0) ?_
    intro u53 e53
    refine HL.still (Runs.move g10) ?_
    intro u54 e54
    refine HL.one (HO.call Tryd.func42 bd42 nm42 (args2 e53 e54) rfl ((hEnd).mono ?_))
    rintro _ h10 ⟨rfl, rfl⟩
    intro u55 e55
    refine HL.still (Runs.sliceSl Tryd.underlying22 sz37 e52 (lo := E) (hi := l.length) ⟨_, e55⟩ rfl (by omega) (by omega) rfl) ?_
    intro u56 e56
    refine HL.one (HO.dapp e51 e56 rfl hdl.symm J9 hD (by rw [hlC, hdl]; omega) X9.size ?_)
    intro a11 c11 h11 J11 G11
    intro u57 e57
    refine HL.one (HO.call Tryd.func45 bd45 nm45 (args1 e57) rfl ((fineJ_ch h11 _ a11 h5.size _ c11 rfl J11 hflen hOkC).mono ?_))
    rintro _ h12 ⟨⟨a12, c12, rfl, J12⟩, X12⟩
    intro u58 e58
    refine HL.still (Runs.assign e58) ?_
    intro u6 e6
    refine HL.nil ?_
    have X11 : Ext h5 h11 := G11.belJ X9 J9 (Nat.le_refl _) (Nat.le_refl _)
    refine HW.ret ?_
    rw [List.append_assoc] at J12 e6
    exact RT.one rfl e6 ⟨a12, c12, by rw [hs], by rw [hs]; exact J12.low X05.size, (X05.ext X11 (Nat.le_refl _)).ext X12 (Nat.le_refl _)⟩
  · have hkE : getO l 0 key = -1 := by omega
    have hs : setO l key v0 = wholeO (plusC (l ++ namedO v0 key) 1) := by
      unfold setO
      rw [if_neg (by rw [ho, hr]; simp), if_neg hk0]
    rw [hkE] at hG
    have hcl := count_le hrl hlp
    have hcn := count_nn hrl hlp
    obtain ⟨x, hx⟩ : ∃ x, x = l.getD 0 zJ := ⟨_, rfl⟩
    have hx2 : (l ++ namedO v0 key).getD 0 zJ = x := by
      cases l with
      | nil => cases hlp
      | cons y r => rw [hx]; rfl
    rw [← hx] at hcl hcn
    have hflen : (l ++ namedO v0 key).length ≤ 100000 := by rw [List.length_append, hnl]; omega
    have hOkC : OkJ (plusC (l ++ namedO v0 key) 1) := (hOk.append (hOv.named hk)).plus (by rw [hx2]; omega)
    have hne : l ++ namedO v0 key ≠ [] := by
      intro e
      have := congrArg List.length e
      rw [List.length_append, List.length_nil] at this
      omega
    -- region 6
    repeat refine HW.seq ?_
    refine HW.region ?_
    refine HL.still (Runs.move p0) ?_
    intro u36 e36
    refine HL.still (Runs.move p1) ?_
    intro u37 e37
    refine HL.one (HO.call Tryd.func20 bd20 nm20 (args3 e36 rfl e37) rfl ((hG).mono ?_))
    rintro _ h5 ⟨rfl, X5⟩
    intro u38 e38
    refine HL.still (Runs.assign e38) ?_
    intro u10 e10
    refine HL.nil ?_
    have g10 := e10
    have X05 : Ext h h5 := X03.ext X5 (Nat.le_refl _)
    have hB5 := hB.ext X05
    -- region 7
    repeat refine HW.seq ?_
    refine HW.region ?_
    refine HL.still (Runs.move g10) ?_
    intro u39 e39
    refine HL.still (Runs.geq e39 rfl (t := false) rfl) ?_
    intro u40 e40
    refine HL.nil ?_
    refine HW.no e40 ?_
    refine HW.skip ?_
    have hJ0 : ∀ {u : Heap}, Nw h5 u (.cells (flJ []).toArray 37 (0, 0)) → Js u h5.size (some ⟨h5.size, 0, none⟩) 0 [] := fun w => Js.lit (l := []) w (Nat.le_refl _) (Nat.zero_le _)
    have hX7 : ∀ {u u' : Heap}, Nw h5 u (.cells (flJ []).toArray 37 (0, 0)) → GrA u u' (some ⟨h5.size, 0, none⟩) → Ext h5 u' := fun w G => G.belJ w.ext (hJ0 w) (Nat.le_refl _) (Nat.le_refl _)
    -- region 11
    repeat refine HW.seq ?_
    refine HW.region ?_
    refine HL.one (HO.jv0 ?_)
    intro h6 w6
    intro u59 e59
    refine HL.still (Runs.move p0) ?_
    intro u60 e60
    refine HL.one (HO.dapp e59 e60 rfl rfl (hJ0 w6) (hB5.ext w6.ext) (by simp; omega) (by rw [w6.size]; omega) ?_)
    intro a7 c7 h7 J7 G7
    intro u61 e61
    refine HL.still (Runs.move p2) ?_
    intro u62 e62
    refine HL.still (Runs.move p1) ?_
    intro u63 e63
    refine HL.one (HO.call Tryd.func41 bd41 nm41 (args2 e62 e63) rfl ((namedR_ch h7 v0 va v0.length vc key rfl (hV.ext (X05.ext (hX7 w6 G7) (Nat.le_refl _))) (by omega)).mono ?_))
    rintro _ h8 ⟨a8, c8, rfl, J8, X8⟩
    intro u64 e64
    refine HL.one (HO.dapp e61 e64 rfl rfl (J7.ext X8) J8.jvs (by rw [hnl]; simp; omega) (Nat.le_trans (hX7 w6 G7).size X8.size) ?_)
    intro a9 c9 h9 J9 G9
    intro u65 e65
    refine HL.still (Runs.assign e65) ?_
    intro u12 e12
    refine HL.nil ?_
    have X7 := hX7 w6 G7
    have X9 : Ext h5 h9 := G9.belJ (X7.ext X8 (Nat.le_refl _)) (J7.ext X8) (Nat.le_refl _) (Nat.le_refl _)
    have J9 : Js h9 h5.size a9 c9 (l ++ namedO v0 key) := J9
    have g12 : u12 = .slice a9 (l ++ namedO v0 key).length c9 := e12
    obtain ⟨g, rfl, hgb, hgl⟩ : ∃ g, a9 = some ⟨g, 0, none⟩ ∧ h5.size ≤ g ∧ g < h9.size := by
      rcases J9.blk with ⟨_, q⟩ | q
      · exact absurd q hne
      · exact q
    obtain ⟨cur, hb7, hcl7, _⟩ := J9.blkAt
    have hcap7 := J9.2
    have hpos : 0 < (l ++ namedO v0 key).length := List.length_pos_iff.2 hne
    obtain ⟨sb, so, e', hc7⟩ := J9.jvs.at hpos
    cases e'
    rw [hx2] at hc7
    have hc3 : cellH h9 g 3 = some (I64 x.2.2.2) := by have := hc7 3 _ rfl; simpa using this
    -- region 12
    repeat refine HW.seq ?_
    refine HW.region ?_
    refine HL.still (Runs.move g12) ?_
    intro u66 e66
    refine HL.still (Runs.ixSl (o' := 0) Tryd.underlying22 sz37 e66 rfl (by omega) (by omega) (by omega)) ?_
    intro u67 e67
    refine HL.still (Runs.fld (o' := 3) Tryd.underlying37 rfl sz3 (by decide) e67 (by rfl)) ?_
    intro u68 e68
    refine HL.still (Runs.load Tryd.underlying3 rfl e68 hc3) ?_
    intro u69 e69
    refine HL.still (Runs.add e69 rfl (c := x.2.2.2 + 1) (i64w (by omega))) ?_
    intro u70 e70
    refine HL.still (Runs.ixSl (o' := 0) Tryd.underlying22 sz37 e66 rfl (by omega) (by omega) (by omega)) ?_
    intro u71 e71
    refine HL.still (Runs.fld (o' := 3) Tryd.underlying37 rfl sz3 (by decide) e71 (by rfl)) ?_
    intro u72 e72
    refine HL.zero (HO.store (s := 1) sz3 e72 e70 rfl hb7 (by omega) rfl ?_)
    intro h10 w10
    refine HL.nil ?_
    have J10 := J9.plus (d := 1) hne hb7 (by rw [hx2]) w10
    have X10 : Ext h h10 := (X05.ext X9 (Nat.le_refl _)).wr w10 (by have := X05.size; omega)
    have hpl : (plusC (l ++ namedO v0 key) 1).length = (l ++ namedO v0 key).length := plusC_len _ _
    -- region 13
    repeat refine HW.seq ?_
    refine HW.region ?_
    refine HL.still (Runs.move g12) ?_
    intro u73 e73
    refine HL.one (HO.call Tryd.func45 bd45 nm45 (args1 e73) rfl ((fineJ_ch h10 _ _ h5.size _ c9 hpl.symm J10 (by rw [hpl]; exact hflen) hOkC).mono ?_))
    rintro _ h11 ⟨⟨a11, c11, rfl, J11⟩, X11⟩
    intro u74 e74
    refine HL.still (Runs.assign e74) ?_
    intro u6 e6
    refine HL.nil ?_
    refine HW.ret ?_
    exact RT.one rfl e6 ⟨a11, c11, by rw [hs], by rw [hs]; exact J11.low X05.size, X10.ext X11 (Nat.le_refl _)⟩
set_option maxRecDepth 10000 in
set_option maxHeartbeats 2000000 in
theorem dropR_ch (h : Heap) (l : List JV) (a : Option Addr) (n cap : Nat) (key : List UInt8) (hn : n = l.length) (hcap : l.length ≤ cap) (hB : Jvs h a l) (hl : l.length ≤ 10000) (hOk : OkJ l) :
    CH Tryd.prog 23 #[.slice a n cap, .string (strOf key)] h fun v h' => ∃ a' c', v = .slice a' (dropO l key).length c' ∧ Js h' h.size a' c' (dropO l key) ∧ Ext h h' := by
  subst hn
  refine CH.of_body Tryd.func23 rfl rfl rfl ?_
  intro f hf
  have p0 : f 0 = .slice a l.length cap := by rw [hf]; exact fr0_at rfl
  have p1 : f 1 = .string (strOf key) := by rw [hf]; exact fr0_at rfl
  -- region 0
  repeat refine HW.seq ?_
  refine HW.region ?_
  refine HL.still (Runs.assign rfl) ?_
  intro u4 e4
  refine HL.nil ?_
  -- region 1
  repeat refine HW.seq ?_
  refine HW.region ?_
  refine HL.still (Runs.move p0) ?_
  intro u8 e8
  refine HL.one (HO.call Tryd.func43 bd43 nm43 (args1 e8) rfl ((rightT_ch h l a l.length cap rfl hB (by omega) hOk).mono ?_))
  rintro _ h2 ⟨rfl, X2⟩
  intro u9 e9
  refine HL.still (Runs.assign e9) ?_
  intro u5 e5
  refine HL.nil ?_
  have g5 := e5
  have hB2 := hB.ext X2
  refine HW.seq ?_
  refine HW.mono (N := fun f v => objO l = true ∧ f 0 = .slice a l.length cap ∧ f 1 = .string (strOf key) ∧ h2 = v) ?_ ?_ (fun _ _ _ q => q) (fun _ _ q => q)
  · repeat refine HW.seq ?_
    have bad : dropO l key = [] → ∀ f' : St, f' 4 = .slice none 0 0 → RT Tryd.prog Tryd.f23 (fun v h' => ∃ a' c', v = .slice a' (dropO l key).length c' ∧ Js h' h.size a' c' (dropO l key) ∧ Ext h h') f' h2 := fun hs f' q => RT.one rfl q ⟨none, 0, by rw [hs]; rfl, by rw [hs]; exact Js.start _ _, X2⟩
    cases hrl : rightO l with
    | false =>
      rw [hrl] at g5
      have hs : dropO l key = [] := by unfold dropO objO; rw [hrl]; simp
      -- region 2
      repeat refine HW.seq ?_
      refine HW.region ?_
      refine HL.still (Runs.move g5) ?_
      intro u10 e10
      refine HL.still (Runs.notb e10 (u := true) rfl) ?_
      intro u11 e11
      refine HL.still (Runs.move e11) ?_
      intro u12 e12
      refine HL.skipG rfl rfl e12 ?_
      intro u13 e13
      refine HL.skipG rfl rfl e12 ?_
      intro u14 e14
      refine HL.skipG rfl rfl e12 ?_
      intro u15 e15
      refine HL.skipG rfl rfl e12 ?_
      intro u16 e16
      refine HL.skipG rfl rfl e12 ?_
      intro u17 e17
      refine HL.still (Runs.pick e12 rfl) ?_
      intro u18 e18
      refine HL.nil ?_
      refine HW.yes e18 ?_
      -- region 3
      repeat refine HW.seq ?_
      refine HW.region ?_
      refine HL.still (Runs.assign rfl) ?_
      intro u4 e4
      refine HL.nil ?_
      exact HW.ret (bad hs _ e4)
    | true =>
      rw [hrl] at g5
      have hpos := List.length_pos_iff.2 (right_ne hrl)
      obtain ⟨sb, so, rfl, hc⟩ := hB2.at hpos
      have hhd : l.headD zJ = l.getD 0 zJ := by cases l <;> rfl
      obtain ⟨x, hx⟩ : ∃ x, x = l.getD 0 zJ := ⟨_, rfl⟩
      rw [← hx] at hc hhd
      have hc0 : cellH h2 sb so = some (I64 x.1) := by have := hc 0 _ rfl; simpa using this
      have hob : objO l = isObj x := by unfold objO; rw [hrl, hhd]; rfl
      by_cases h6 : x.1 = 6
      · have ho : objO l = true := by rw [hob]; unfold isObj; exact decide_eq_true h6
        -- region 2
        repeat refine HW.seq ?_
        refine HW.region ?_
        refine HL.still (Runs.move g5) ?_
        intro u10 e10
        refine HL.still (Runs.notb e10 (u := false) rfl) ?_
        intro u11 e11
        refine HL.still (Runs.move e11) ?_
        intro u12 e12
        refine HL.stillG rfl rfl e12 (Runs.move p0) ?_
        intro u13 e13
        refine HL.stillG rfl rfl e12 (Runs.ixSl (o' := so) Tryd.underlying22 sz37 e13 rfl (by omega) (by omega) (by omega)) ?_
        intro u14 e14
        refine HL.stillG rfl rfl e12 (Runs.fld (o' := so) Tryd.underlying37 rfl sz3 (by decide) e14 (by first | rfl | omega)) ?_
        intro u15 e15
        refine HL.stillG rfl rfl e12 (Runs.load Tryd.underlying3 rfl e15 hc0) ?_
        intro u16 e16
        refine HL.stillG rfl rfl e12 (Runs.neq e16 rfl (t := false) (by simp [h6])) ?_
        intro u17 e17
        refine HL.still (Runs.pick e12 e17) ?_
        intro u18 e18
        refine HL.nil ?_
        refine HW.no e18 ?_
        refine HW.skip ?_
        exact ⟨ho, p0, p1, rfl⟩
      · have ho : objO l = false := by rw [hob]; unfold isObj; exact decide_eq_false h6
        have hs : dropO l key = [] := by unfold dropO; rw [if_pos ho]
        -- region 2
        repeat refine HW.seq ?_
        refine HW.region ?_
        refine HL.still (Runs.move g5) ?_
        intro u10 e10
        refine HL.still (Runs.notb e10 (u := false) rfl) ?_
        intro u11 e11
        refine HL.still (Runs.move e11) ?_
        intro u12 e12
        refine HL.stillG rfl rfl e12 (Runs.move p0) ?_
        intro u13 e13
        refine HL.stillG rfl rfl e12 (Runs.ixSl (o' := so) Tryd.underlying22 sz37 e13 rfl (by omega) (by omega) (by omega)) ?_
        intro u14 e14
        refine HL.stillG rfl rfl e12 (Runs.fld (o' := so) Tryd.underlying37 rfl sz3 (by decide) e14 (by first | rfl | omega)) ?_
        intro u15 e15
        refine HL.stillG rfl rfl e12 (Runs.load Tryd.underlying3 rfl e15 hc0) ?_
        intro u16 e16
        refine HL.stillG rfl rfl e12 (Runs.neq e16 rfl (t := true) (by simpa using h6)) ?_
        intro u17 e17
        refine HL.still (Runs.pick e12 e17) ?_
        intro u18 e18
        refine HL.nil ?_
        refine HW.yes e18 ?_
        -- region 3
        repeat refine HW.seq ?_
        refine HW.region ?_
        refine HL.still (Runs.assign rfl) ?_
        intro u4 e4
        refine HL.nil ?_
        exact HW.ret (bad hs _ e4)
  clear p0 p1 g5 e5
  rintro f v ⟨ho, p0, p1, rfl⟩
  have hrl : rightO l = true := by
    have := ho
    unfold objO at this
    rw [Bool.and_eq_true] at this
    exact this.1
  have hlp : 0 < l.length := List.length_pos_iff.2 (right_ne hrl)
  have hgr := getO_range l 0 key
  have hJ0 : ∀ {u : Heap}, Nw h2 u (.cells (flJ []).toArray 37 (0, 0)) → Js u h2.size (some ⟨h2.size, 0, none⟩) 0 [] := fun w => Js.lit (l := []) w (Nat.le_refl _) (Nat.zero_le _)
  -- region 4
  repeat refine HW.seq ?_
  refine HW.region ?_
  refine HL.one (HO.jv0 ?_)
  intro h3 w3
  intro u19 e19
  refine HL.still (Runs.move p0) ?_
  intro u20 e20
  refine HL.one (HO.dapp e19 e20 rfl rfl (hJ0 w3) (hB2.ext w3.ext) (by simp; omega) (by rw [w3.size]; omega) ?_)
  intro a4 c4 h4 J4 G4
  intro u21 e21
  refine HL.still (Runs.assign e21) ?_
  intro u6 e6
  refine HL.nil ?_
  have X4 : Ext h2 h4 := G4.belJ w3.ext (hJ0 w3) (Nat.le_refl _) (Nat.le_refl _)
  have J4 : Js h4 h2.size a4 c4 l := J4
  have g6 : u6 = .slice a4 l.length c4 := e6
  have X04 : Ext h h4 := X2.ext X4 (Nat.le_refl _)
  have hG := getR_ch h4 l a l.length cap 0 key rfl (hB.ext X04) (by omega) hOk
  by_cases hk0 : getO l 0 key ≥ 0
  · have hkp := getO_pos hk0
    obtain ⟨k, hkE⟩ : ∃ k : Nat, getO l 0 key = k := ⟨(getO l 0 key).toNat, by omega⟩
    have hkl : k < l.length := by omega
    have hkp0 : 0 < k := by omega
    obtain ⟨hE1, hE2⟩ := endO_right hrl hkl
    obtain ⟨E, hE⟩ : ∃ E : Nat, endO l (k : Nat) = E := ⟨(endO l (k : Nat)).toNat, by omega⟩
    have hs : dropO l key = plusC (l.take k ++ l.drop E) (-1) := by
      unfold dropO
      rw [if_neg (by rw [ho]; simp), if_neg (by omega), hkE, hE]
      rfl
    rw [hE] at hE1 hE2
    rw [hkE] at hG
    have hcn := count_nn hrl hlp
    obtain ⟨x, hx⟩ : ∃ x, x = l.getD 0 zJ := ⟨_, rfl⟩
    have hx2 : (l.take k ++ l.drop E).getD 0 zJ = x := (take_getD hkp0 hlp _).trans hx.symm
    have hxm : x ∈ l := by
      rw [hx, List.getD_eq_getElem?_getD, List.getElem?_eq_getElem hlp]
      exact List.getElem_mem hlp
    have hxc := (hOk x hxm).2.2
    rw [← hx] at hcn
    -- region 5
    repeat refine HW.seq ?_
    refine HW.region ?_
    refine HL.still (Runs.move p0) ?_
    intro u22 e22
    refine HL.still (Runs.move p1) ?_
    intro u23 e23
    refine HL.one (HO.call Tryd.func20 bd20 nm20 (args3 e22 rfl e23) rfl ((hG).mono ?_))
    rintro _ h5 ⟨rfl, X5⟩
    intro u24 e24
    refine HL.still (Runs.assign e24) ?_
    intro u7 e7
    refine HL.nil ?_
    have g7 := e7
    -- region 6
    repeat refine HW.seq ?_
    refine HW.region ?_
    refine HL.still (Runs.move g7) ?_
    intro u25 e25
    refine HL.still (Runs.lss e25 rfl (t := false) (decide_eq_false (by omega))) ?_
    intro u26 e26
    refine HL.nil ?_
    refine HW.no e26 ?_
    refine HW.skip ?_
    have X05 : Ext h h5 := X04.ext X5 (Nat.le_refl _)
    have hB5 := hB.ext X05
    have J5 := J4.ext X5
    obtain ⟨ga, rfl, hga, hgl⟩ : ∃ g, a4 = some ⟨g, 0, none⟩ ∧ h2.size ≤ g ∧ g < h5.size := by
      rcases J5.blk with ⟨_, q⟩ | q
      · exact absurd q (right_ne hrl)
      · exact q
    have J5k := J5.take k (right_ne hrl)
    have hcap5 := J5.2
    have htl : (l.take k).length = k := by rw [List.length_take]; omega
    have hdl : (l.drop E).length = l.length - E := List.length_drop
    have hne : l.take k ++ l.drop E ≠ [] := by
      intro e
      have := congrArg List.length e
      rw [List.length_append, List.length_nil] at this
      omega
    have hszh : h.size ≤ h2.size := X2.size
    repeat refine HW.seq ?_
    refine HW.mono (N := fun f v => (∃ a c, f 6 = .slice a (l.take k ++ l.drop E).length c ∧ Js v h2.size a c (l.take k ++ l.drop E)) ∧ Ext h v) ?_ ?_ (fun _ _ _ q => q) (fun _ _ q => q)
    · skip
      -- region 8
      repeat refine HW.seq ?_
      refine HW.last #[0, 0, 3, 0, 0, 0, 48, 120, 255, 511] (fun a b => Ext a b) (ExB ga) 8 mixed (by kernel_rfl) (fun _ => Bel.refl _ _) (fun _ _ _ x y => Bel.ext x y (Nat.le_refl _)) (fun _ => ⟨Nat.le_refl _, fun _ _ _ => rfl⟩) ?_
      refine HM2.still ⟨fun _ => Bel.refl _ _, fun _ => ⟨Nat.le_refl _, fun _ _ _ => rfl⟩⟩ (fun f h K => Runs.move ((K.keepB (by kernel_rfl)).trans g6)) ?_
      refine HM2.still ⟨fun _ => Bel.refl _ _, fun _ => ⟨Nat.le_refl _, fun _ _ _ => rfl⟩⟩ (fun f h K => Runs.move ((K.keep (by kernel_rfl)).trans g7)) ?_
      refine HM2.still ⟨fun _ => Bel.refl _ _, fun _ => ⟨Nat.le_refl _, fun _ _ _ => rfl⟩⟩ (fun f h K => Runs.sliceSl Tryd.underlying22 sz37 (K.at 0 28 rfl rfl) (lo := 0) (hi := k) rfl ⟨_, K.at 1 29 rfl rfl⟩ (Nat.zero_le _) (by omega) sl0) ?_
      refine HM2.still ⟨fun _ => Bel.refl _ _, fun _ => ⟨Nat.le_refl _, fun _ _ _ => rfl⟩⟩ (fun f h K => Runs.move ((K.keep (by kernel_rfl)).trans p0)) ?_
      refine HM2.still ⟨fun _ => Bel.refl _ _, fun _ => ⟨Nat.le_refl _, fun _ _ _ => rfl⟩⟩ (fun f h K => Runs.move ((K.keep (by kernel_rfl)).trans p0)) ?_
      refine HM2.still ⟨fun _ => Bel.refl _ _, fun _ => ⟨Nat.le_refl _, fun _ _ _ => rfl⟩⟩ (fun f h K => Runs.move ((K.keep (by kernel_rfl)).trans g7)) ?_
      refine HM2.one (fun x _ => x = I64 (E : Nat)) (fun _ _ => ⟨fun _ _ _ _ e => e, fun _ _ _ _ e => e⟩) (fun f hh K => HO.call Tryd.func42 bd42 nm42 (args2 (K.at 4 32 rfl rfl) (K.at 5 33 rfl rfl)) rfl ((endR_ch hh l a l.length cap (k : Nat) rfl (hB5.ext (K.grown (.inr rfl))) (by omega)).mono fun _ _ q => ⟨Rk.grow rfl (by rw [q.2]; exact Bel.refl _ _), by rw [q.1, hE]⟩)) ?_
      refine HM2.still ⟨fun _ => Bel.refl _ _, fun _ => ⟨Nat.le_refl _, fun _ _ _ => rfl⟩⟩ (fun f h K => Runs.sliceSl Tryd.underlying22 sz37 (K.at 3 31 rfl rfl) (lo := E) (hi := l.length) ⟨_, K.at 6 34 rfl rfl⟩ rfl (by omega) (by omega) rfl) ?_
      refine HM2.one (fun v hh => (∃ a c, v = .slice a (l.take k ++ l.drop E).length c ∧ Js hh h2.size a c (l.take k ++ l.drop E)) ∧ Ext h hh) (fun e => absurd rfl e) (fun f hh K => HO.dapp (K.at 2 30 rfl rfl) (K.at 7 35 rfl rfl) htl.symm hdl.symm (J5k.ext (K.grown (.inl rfl))) (((hB5.ext (K.grown (.inl rfl))).drop E hcap (by omega) rfl)) (by rw [htl, hdl]; omega) (Nat.le_trans (Nat.le_of_lt (Nat.lt_of_le_of_lt hga hgl)) (Bel.size (K.grown (.inl rfl)))) fun a9 c9 h9 J9 G9 => ⟨Rk.turn ⟨Gr.size G9, fun j hj hne => Gr.old G9 j hj (fun e => hne (by cases e; rfl))⟩, ⟨a9, c9, rfl, J9⟩, G9.belJ (X05.ext (K.grown (.inl rfl)) (Nat.le_refl _)) (J5k.ext (K.grown (.inl rfl))) hszh (Nat.le_refl _)⟩) ?_
      refine HM2.one (fun v hh => (∃ a c, v = .slice a (l.take k ++ l.drop E).length c ∧ Js hh h2.size a c (l.take k ++ l.drop E)) ∧ Ext h hh) (fun _ e => absurd e (by decide)) (fun f u K => HO.of_runs (Runs.assign rfl) ⟨Rk.refl ⟨fun _ => Bel.refl _ _, fun _ => ⟨Nat.le_refl _, fun _ _ _ => rfl⟩⟩ _, K.at 8 36 rfl rfl⟩) ?_
      intro f' g' V O
      exact last_at V 9 6 rfl
    rintro f7 h7 ⟨⟨a7, c7, g6, J7⟩, X07⟩
    obtain ⟨g, rfl, hgb, hgl⟩ : ∃ g, a7 = some ⟨g, 0, none⟩ ∧ h2.size ≤ g ∧ g < h7.size := by
      rcases J7.blk with ⟨_, q⟩ | q
      · exact absurd q hne
      · exact q
    obtain ⟨cur, hb7, hcl7, _⟩ := J7.blkAt
    have hcap7 := J7.2
    have hpos : 0 < (l.take k ++ l.drop E).length := List.length_pos_iff.2 hne
    obtain ⟨sb, so, e', hc7⟩ := J7.jvs.at hpos
    cases e'
    rw [hx2] at hc7
    have hc3 : cellH h7 g 3 = some (I64 x.2.2.2) := by have := hc7 3 _ rfl; simpa using this
    -- region 9
    repeat refine HW.seq ?_
    refine HW.region ?_
    refine HL.still (Runs.move g6) ?_
    intro u37 e37
    refine HL.still (Runs.ixSl (o' := 0) Tryd.underlying22 sz37 e37 rfl (by omega) (by omega) (by omega)) ?_
    intro u38 e38
    refine HL.still (Runs.fld (o' := 3) Tryd.underlying37 rfl sz3 (by decide) e38 (by rfl)) ?_
    intro u39 e39
    refine HL.still (Runs.load Tryd.underlying3 rfl e39 hc3) ?_
    intro u40 e40
    refine HL.still (Runs.sub e40 rfl (c := x.2.2.2 - 1) (i64w (by omega))) ?_
    intro u41 e41
    refine HL.still (Runs.ixSl (o' := 0) Tryd.underlying22 sz37 e37 rfl (by omega) (by omega) (by omega)) ?_
    intro u42 e42
    refine HL.still (Runs.fld (o' := 3) Tryd.underlying37 rfl sz3 (by decide) e42 (by rfl)) ?_
    intro u43 e43
    refine HL.zero (HO.store (s := 1) sz3 e43 e41 rfl hb7 (by omega) rfl ?_)
    intro h8 w8
    refine HL.nil ?_
    have J8 := J7.plus (d := -1) hne hb7 (by rw [hx2]; omega) w8
    have X08 : Ext h h8 := X07.wr w8 (by omega)
    -- region 10
    repeat refine HW.seq ?_
    refine HW.region ?_
    refine HL.still (Runs.move g6) ?_
    intro u44 e44
    refine HL.still (Runs.assign e44) ?_
    intro u4 e4
    refine HL.nil ?_
    refine HW.ret ?_
    exact RT.one rfl e4 ⟨_, c7, by rw [hs, plusC_len], by rw [hs]; exact J8.low hszh, X08⟩
  · have hkE : getO l 0 key = -1 := by omega
    have hs : dropO l key = l := by
      unfold dropO
      rw [if_neg (by rw [ho]; simp), if_pos (by omega)]
    rw [hkE] at hG
    -- region 5
    repeat refine HW.seq ?_
    refine HW.region ?_
    refine HL.still (Runs.move p0) ?_
    intro u22 e22
    refine HL.still (Runs.move p1) ?_
    intro u23 e23
    refine HL.one (HO.call Tryd.func20 bd20 nm20 (args3 e22 rfl e23) rfl ((hG).mono ?_))
    rintro _ h5 ⟨rfl, X5⟩
    intro u24 e24
    refine HL.still (Runs.assign e24) ?_
    intro u7 e7
    refine HL.nil ?_
    have g7 := e7
    have X05 : Ext h h5 := X04.ext X5 (Nat.le_refl _)
    -- region 6
    repeat refine HW.seq ?_
    refine HW.region ?_
    refine HL.still (Runs.move g7) ?_
    intro u25 e25
    refine HL.still (Runs.lss e25 rfl (t := true) rfl) ?_
    intro u26 e26
    refine HL.nil ?_
    refine HW.yes e26 ?_
    -- region 7
    repeat refine HW.seq ?_
    refine HW.region ?_
    refine HL.still (Runs.move g6) ?_
    intro u27 e27
    refine HL.still (Runs.assign e27) ?_
    intro u4 e4
    refine HL.nil ?_
    refine HW.ret ?_
    exact RT.one rfl e4 ⟨a4, c4, by rw [hs], by rw [hs]; exact (J4.ext X5).low X2.size, X05⟩
end Go.Proofs.YtjopikfkgjbcgaaDoor
