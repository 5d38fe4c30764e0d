/- What is dropped: jobj.Drop. -/
import Derived.Test.YtjopikfkgjbcgaaGreatDoorOo
import Derived.Test.YtjopikfkgjbcgaaGreatDoorRw
namespace Go.Proofs.YtjopikfkgjbcgaaGreatDoor
set_option linter.unnecessarySimpa false
set_option linter.unusedSimpArgs false
set_option linter.unusedVariables false
open Go.RowKit
theorem take_getD {l : List JV} {k : Nat} (hk : 0 < k) (hl : 0 < l.length) (m : List JV) : (l.take k ++ m).getD 0 zJ = l.getD 0 zJ := by
  cases l with
  | nil => cases hl
  | cons y r =>
    obtain ⟨k, rfl⟩ : ∃ k', k = k' + 1 := ⟨k - 1, by omega⟩
    rfl
theorem places_pos1 {l : List JV} {at0 : Nat} {k : Int} (h : k ∈ placesO l (at0 : Nat)) : (at0 : Int) < k := by
  by_cases hp : isPl l (at0 : Nat) = true
  · obtain ⟨n, hn, hk0, hr⟩ := isPl_len hp
    have hn : at0 = n := by omega
    subst hn
    obtain ⟨ks, q, e, hl, hv⟩ := place_split hr hk0
    have hla : (l.take (at0 + 1)).length = at0 + 1 := by rw [List.length_take]; omega
    rw [places_pos hr hk0 e hla hl hv] at h
    have := posK_lt _ _ (fun p hp => (hv p hp).ne (Nat.le_refl _)) k h
    omega
  · rw [places_no (by simpa using hp)] at h
    cases h
theorem getO_pos {l : List JV} {key : List UInt8} (h : getO l 0 key ≥ 0) : 0 < getO l 0 key := by
  unfold getO at h ⊢
  cases hf : (placesO l 0).find? (fun k => keyAt l k == key) with
  | none => rw [hf] at h; simp at h
  | some k =>
    have := places_pos1 (at0 := 0) (List.mem_of_find?_eq_some hf)
    rw [hf] at h
    simp only at h ⊢
    split
    · exact this
    · rename_i q; rw [if_neg q] at h; omega
set_option maxRecDepth 10000 in
set_option maxHeartbeats 2000000 in
theorem drop_ch (h : Heap) (l : List JV) (a : Option Addr) (n cap : Nat) (key : List UInt8) (hn : n = l.length) (hcap : l.length ≤ cap) (hB : Jvs h a l) (hP : Plc h) (hl : l.length ≤ 10000) (hOk : OkJ l) :
    CH Tryz.prog 19 #[.slice a n cap, .string (strOf key)] h fun v h' => ∃ a' c', v = .slice a' (dropO l key).length c' ∧ Js h' h.size a' c' (dropO l key) ∧ Ext h h' := by
  subst hn
  refine CH.of_body Tryz.func19 rfl rfl rfl ?_
  intro f hf
  have p0 : f 0 = .slice a l.length cap := by rw [hf]; exact fr0_at rfl
  have p1 : f 1 = .string (strOf key) := by rw [hf]; exact fr0_at rfl
  have hOb := object_ch h l a l.length cap rfl hB hP (by omega) hOk
  -- region 0
  repeat refine HW.seq ?_
  refine HW.region ?_
  refine HL.still (Runs.assign rfl) ?_
  intro u4 e4
  refine HL.nil ?_
  cases ho : objO l with
  | false =>
    rw [ho] at hOb
    have hs : dropO l key = [] := by unfold dropO; rw [if_pos ho]
    -- region 1
    repeat refine HW.seq ?_
    refine HW.region ?_
    refine HL.still (Runs.move p0) ?_
    intro u7 e7
    refine HL.one (HO.call Tryz.func33 bd33 nm33 (args1 e7) rfl ((hOb).mono ?_))
    rintro _ h2 ⟨rfl, X2⟩
    intro u8 e8
    refine HL.still (Runs.notb e8 (u := true) rfl) ?_
    intro u9 e9
    refine HL.nil ?_
    refine HW.yes e9 ?_
    -- region 2
    repeat refine HW.seq ?_
    refine HW.region ?_
    refine HL.still (Runs.assign rfl) ?_
    intro u4 e4
    refine HL.nil ?_
    refine HW.ret ?_
    exact RT.one rfl e4 ⟨none, 0, by rw [hs]; rfl, by rw [hs]; exact Js.start _ _, X2⟩
  | true =>
    rw [ho] at hOb
    have hrl : rightO l = true := by
      unfold objO at ho
      rw [Bool.and_eq_true] at ho
      exact ho.1
    have hlp : 0 < l.length := List.length_pos_iff.2 (right_ne hrl)
    -- region 1
    repeat refine HW.seq ?_
    refine HW.region ?_
    refine HL.still (Runs.move p0) ?_
    intro u7 e7
    refine HL.one (HO.call Tryz.func33 bd33 nm33 (args1 e7) rfl ((hOb).mono ?_))
    rintro _ h2 ⟨rfl, X2⟩
    intro u8 e8
    refine HL.still (Runs.notb e8 (u := false) rfl) ?_
    intro u9 e9
    refine HL.nil ?_
    refine HW.no e9 ?_
    refine HW.skip ?_
    have hB2 := hB.ext X2
    have hG := get_ch h2 l a l.length cap 0 key rfl hB2 (hP.ext X2) (by omega) hOk
    have hgr := getO_range l 0 key
    by_cases hk0 : getO l 0 key ≥ 0
    · have hkp := getO_pos hk0
      obtain ⟨k, hkE⟩ : ∃ k : Nat, getO l 0 key = k := ⟨(getO l 0 key).toNat, by omega⟩
      have hkl : k < l.length := by omega
      have hkp0 : 0 < k := by omega
      obtain ⟨hE1, hE2⟩ := endO_right hrl hkl
      obtain ⟨E, hE⟩ : ∃ E : Nat, endO l (k : Nat) = E := ⟨(endO l (k : Nat)).toNat, by omega⟩
      have hs : dropO l key = plusC (l.take k ++ l.drop E) (-1) := by
        unfold dropO
        rw [if_neg (by rw [ho]; simp), if_neg (by omega), hkE, hE]
        rfl
      rw [hE] at hE1 hE2
      rw [hkE] at hG
      have hcn := count_nn hrl hlp
      obtain ⟨x, hx⟩ : ∃ x, x = l.getD 0 zJ := ⟨_, rfl⟩
      have hx2 : (l.take k ++ l.drop E).getD 0 zJ = x := (take_getD hkp0 hlp _).trans hx.symm
      have hxm : x ∈ l := by
        rw [hx, List.getD_eq_getElem?_getD, List.getElem?_eq_getElem hlp]
        exact List.getElem_mem hlp
      have hxc := (hOk x hxm).2.2
      rw [← hx] at hcn
      -- region 3
      repeat refine HW.seq ?_
      refine HW.region ?_
      refine HL.still (Runs.move p0) ?_
      intro u10 e10
      refine HL.still (Runs.move p1) ?_
      intro u11 e11
      refine HL.one (HO.call Tryz.func15 bd15 nm15 (args3 e10 rfl e11) rfl ((hG).mono ?_))
      rintro _ h5 ⟨rfl, X5⟩
      intro u12 e12
      refine HL.still (Runs.assign e12) ?_
      intro u5 e5
      refine HL.nil ?_
      have g5 := e5
      -- region 4
      repeat refine HW.seq ?_
      refine HW.region ?_
      refine HL.still (Runs.move g5) ?_
      intro u13 e13
      refine HL.still (Runs.lss e13 rfl (t := false) (decide_eq_false (by omega))) ?_
      intro u14 e14
      refine HL.nil ?_
      refine HW.no e14 ?_
      refine HW.skip ?_
      have X05 : Ext h h5 := X2.ext X5 (Nat.le_refl _)
      have hB5 := hB.ext X05
      have hA : Jvs h5 (if cap = 0 then a else a.map (·.add (0 * 4))) (l.take k) := by
        have := (hB5.take k).drop (a' := _) (cap := cap) 0 (by rw [List.length_take]; omega) (Nat.zero_le _) rfl
        rwa [List.drop_zero] at this
      have hD : Jvs h5 (if cap = E then a else a.map (·.add (E * 4))) (l.drop E) := hB5.drop E hcap (by omega) rfl
      have htl : (l.take k).length = k := by rw [List.length_take]; omega
      have hdl : (l.drop E).length = l.length - E := List.length_drop
      obtain ⟨rA, hrA⟩ : ∃ rA : RowJ, rA = ((if cap = 0 then a else a.map (·.add (0 * 4))), cap - 0, l.take k) := ⟨_, rfl⟩
      obtain ⟨rD, hrD⟩ : ∃ rD : RowJ, rD = ((if cap = E then a else a.map (·.add (E * 4))), cap - E, l.drop E) := ⟨_, rfl⟩
      have hfl : flatJ [rA, rD] = l.take k ++ l.drop E := by rw [hrA, hrD]; simp [flatJ]
      have hflen : (l.take k ++ l.drop E).length ≤ 100000 := by rw [List.length_append, htl, hdl]; omega
      have hne : l.take k ++ l.drop E ≠ [] := by
        intro e
        have := congrArg List.length e
        rw [List.length_append, List.length_nil] at this
        omega
      have hrows : ∀ u, Ext h5 u → ∀ x ∈ [rA, rD], Jvs u x.1 x.2.2 ∧ x.2.2.length ≤ x.2.1 := fun u X x hx => by
        simp only [List.mem_cons, List.not_mem_nil, or_false] at hx
        rcases hx with rfl | rfl
        · rw [hrA]; exact ⟨hA.ext X, by simp only [htl]; omega⟩
        · rw [hrD]; exact ⟨hD.ext X, by simp only [hdl]; omega⟩
      have vA : Value.slice (if cap = 0 then a else a.map (·.add (0 * 4))) (k - 0) (cap - 0) = rowV rA := by rw [hrA]; simp only [rowV, htl, Nat.sub_zero]
      have vD : Value.slice (if cap = E then a else a.map (·.add (E * 4))) (l.length - E) (cap - E) = rowV rD := by rw [hrD]; simp only [rowV, hdl]
      repeat refine HW.seq ?_
      refine HW.mono (N := fun f v => (∃ a c, f 6 = .slice a (l.take k ++ l.drop E).length c ∧ Js v h5.size a c (l.take k ++ l.drop E)) ∧ Ext h5 v) ?_ ?_ (fun _ _ _ q => q) (fun _ _ q => q)
      · skip
        -- region 6
        repeat refine HW.seq ?_
        refine HW.grow #[0, 0, 3, 0, 0, 0, 48, 120, 255, 511, 1023] (fun a b => Ext a b) mixed (by kernel_rfl) (fun _ => Bel.refl _ _) (fun _ _ _ x y => Bel.ext x y (Nat.le_refl _)) ?_
        refine HM.still (fun _ => Bel.refl _ _) (fun f h K => Runs.move ((K.keep (by kernel_rfl)).trans p0)) ?_
        refine HM.still (fun _ => Bel.refl _ _) (fun f h K => Runs.move ((K.keep (by kernel_rfl)).trans g5)) ?_
        refine HM.still (fun _ => Bel.refl _ _) (fun f h K => Runs.sliceSl Tryz.underlying26 sz41 (K.at 0 17 rfl rfl) (lo := 0) (hi := k) rfl ⟨_, K.at 1 18 rfl rfl⟩ (Nat.zero_le _) (by omega) rfl) ?_
        refine HM.still (fun _ => Bel.refl _ _) (fun f h K => Runs.move ((K.keep (by kernel_rfl)).trans p0)) ?_
        refine HM.still (fun _ => Bel.refl _ _) (fun f h K => Runs.move ((K.keep (by kernel_rfl)).trans p0)) ?_
        refine HM.still (fun _ => Bel.refl _ _) (fun f h K => Runs.move ((K.keep (by kernel_rfl)).trans g5)) ?_
        refine HM.one (fun x _ => x = _) (fun _ _ _ _ e => e) (fun f h K => HO.call Tryz.func32 bd32 nm32 (args2 (K.at 4 21 rfl rfl) (K.at 5 22 rfl rfl)) rfl ((endE_ch h l a l.length cap (k : Nat) rfl (hB5.ext K.grown) (by omega)).mono fun _ _ q => ⟨q.2, q.1⟩)) ?_
        refine HM.still (fun _ => Bel.refl _ _) (fun f h K => Runs.sliceSl Tryz.underlying26 sz41 (K.at 3 20 rfl rfl) (lo := E) (hi := l.length) ⟨_, (K.at 6 23 rfl rfl).trans (congrArg (Value.int .i64) hE)⟩ rfl (by omega) (by omega) rfl) ?_
        refine HM.one (fun v hh => ∃ b, v = .slice (some ⟨b, 0, none⟩) 2 2 ∧ Jvss hh (some ⟨b, 0, none⟩) [rA, rD]) (fun v u u' X ⟨b, q1, q2⟩ => ⟨b, q1, q2.ext X⟩) (fun f hh K => HO.rows2 rA rD ((K.at 2 19 rfl rfl).trans vA) ((K.at 7 24 rfl rfl).trans vD) fun h' w => ⟨w.ext, hh.size, rfl, jvss_block w.new (hrows _ (Bel.ext K.grown w.ext (Nat.le_refl _)))⟩) ?_
        refine HM.one (fun v hh => ∃ a c, v = .slice a (l.take k ++ l.drop E).length c ∧ Js hh h5.size a c (l.take k ++ l.drop E)) (fun v u u' X ⟨a, c, q1, q2⟩ => ⟨a, c, q1, q2.ext X⟩) (fun f hh K => by obtain ⟨b, q1, q2⟩ := K.at 8 25 rfl rfl; exact HO.call Tryz.func35 bd35 nm35 (args1 q1) rfl ((concat_ch hh [rA, rD] _ 2 2 rfl q2 (by rw [hfl]; exact hflen) (by simp)).mono fun v h' ⟨a, c, q3, q4, q5⟩ => ⟨q5, a, c, by rw [← hfl]; exact q3, by rw [← hfl]; exact q4.low (Bel.size K.grown)⟩)) ?_
        refine HM.one (fun v hh => ∃ a c, v = .slice a (l.take k ++ l.drop E).length c ∧ Js hh h5.size a c (l.take k ++ l.drop E)) (fun v u u' X ⟨a, c, q1, q2⟩ => ⟨a, c, q1, q2.ext X⟩) (fun f hh K => HO.of_runs (Runs.assign rfl) ⟨Bel.refl _ _, K.at 9 26 rfl rfl⟩) ?_
        rintro f' h' X V O
        exact ⟨last_at V 10 6 rfl, X⟩
      rintro f7 h7 ⟨⟨a7, c7, g6, J7⟩, X7⟩
      have X07 : Ext h h7 := X05.ext X7 (Nat.le_refl _)
      obtain ⟨g, rfl, hgb, hgl⟩ : ∃ g, a7 = some ⟨g, 0, none⟩ ∧ h5.size ≤ g ∧ g < h7.size := by
        rcases J7.blk with ⟨_, q⟩ | q
        · exact absurd q hne
        · exact q
      obtain ⟨cur, hb7, hcl7, _⟩ := J7.blkAt
      have hcap7 := J7.2
      have hpos : 0 < (l.take k ++ l.drop E).length := List.length_pos_iff.2 hne
      obtain ⟨sb, so, e', hc7⟩ := J7.jvs.at hpos
      cases e'
      rw [hx2] at hc7
      have hc3 : cellH h7 g 3 = some (I64 x.2.2.2) := by have := hc7 3 _ rfl; simpa using this
      -- region 7
      repeat refine HW.seq ?_
      refine HW.region ?_
      refine HL.still (Runs.move g6) ?_
      intro u27 e27
      refine HL.still (Runs.ixSl (o' := 0) Tryz.underlying26 sz41 e27 rfl (by omega) (by omega) (by omega)) ?_
      intro u28 e28
      refine HL.still (Runs.fld (o' := 3) Tryz.underlying41 rfl sz3 (by decide) e28 (by rfl)) ?_
      intro u29 e29
      refine HL.still (Runs.load Tryz.underlying3 rfl e29 hc3) ?_
      intro u30 e30
      refine HL.still (Runs.sub e30 rfl (c := x.2.2.2 - 1) (i64w (by omega))) ?_
      intro u31 e31
      refine HL.still (Runs.ixSl (o' := 0) Tryz.underlying26 sz41 e27 rfl (by omega) (by omega) (by omega)) ?_
      intro u32 e32
      refine HL.still (Runs.fld (o' := 3) Tryz.underlying41 rfl sz3 (by decide) e32 (by rfl)) ?_
      intro u33 e33
      refine HL.zero (HO.store (s := 1) sz3 e33 e31 rfl hb7 (by omega) rfl ?_)
      intro h8 w8
      refine HL.nil ?_
      have J8 := J7.plus (d := -1) hne hb7 (by rw [hx2]; omega) w8
      have X08 : Ext h h8 := X07.wr w8 (by have := X05.size; omega)
      -- region 8
      repeat refine HW.seq ?_
      refine HW.region ?_
      refine HL.still (Runs.move g6) ?_
      intro u34 e34
      refine HL.still (Runs.assign e34) ?_
      intro u4 e4
      refine HL.nil ?_
      refine HW.ret ?_
      exact RT.one rfl e4 ⟨_, c7, by rw [hs, plusC_len], by rw [hs]; exact J8.low X05.size, X08⟩
    · have hkE : getO l 0 key = -1 := by omega
      have hs : dropO l key = l := by
        unfold dropO
        rw [if_neg (by rw [ho]; simp), if_pos (by omega)]
      rw [hkE] at hG
      -- region 3
      repeat refine HW.seq ?_
      refine HW.region ?_
      refine HL.still (Runs.move p0) ?_
      intro u10 e10
      refine HL.still (Runs.move p1) ?_
      intro u11 e11
      refine HL.one (HO.call Tryz.func15 bd15 nm15 (args3 e10 rfl e11) rfl ((hG).mono ?_))
      rintro _ h5 ⟨rfl, X5⟩
      intro u12 e12
      refine HL.still (Runs.assign e12) ?_
      intro u5 e5
      refine HL.nil ?_
      have g5 := e5
      have X05 : Ext h h5 := X2.ext X5 (Nat.le_refl _)
      -- region 4
      repeat refine HW.seq ?_
      refine HW.region ?_
      refine HL.still (Runs.move g5) ?_
      intro u13 e13
      refine HL.still (Runs.lss e13 rfl (t := true) rfl) ?_
      intro u14 e14
      refine HL.nil ?_
      refine HW.yes e14 ?_
      -- region 5
      repeat refine HW.seq ?_
      refine HW.region ?_
      refine HL.still (Runs.move p0) ?_
      intro u15 e15
      refine HL.one (HO.call Tryz.func36 bd36 nm36 (args1 e15) rfl ((cloneJ_ch h5 l a l.length cap rfl (hB.ext X05) (by omega)).mono ?_))
      rintro _ h6 ⟨a6, c6, rfl, J6, X6⟩
      intro u16 e16
      refine HL.still (Runs.assign e16) ?_
      intro u4 e4
      refine HL.nil ?_
      refine HW.ret ?_
      exact RT.one rfl e4 ⟨a6, c6, by rw [hs], by rw [hs]; exact J6.low X05.size, X05.ext X6 (Nat.le_refl _)⟩
end Go.Proofs.YtjopikfkgjbcgaaGreatDoor
/-! The document's Set, Drop: onionskinref12.Set, Drop. -/
namespace Go.Proofs.YtjopikfkgjbcgaaGreatDoor
set_option linter.unnecessarySimpa false
set_option linter.unusedSimpArgs false
set_option linter.unusedVariables false
open Go.RowKit
theorem Js.bel {h h' : Heap} {base N : Nat} {a : Option Addr} {cap : Nat} {l : List JV} (x : Js h base a cap l) (k : Bel N h h') (hN : ∀ sb, a = some ⟨sb, 0, none⟩ → sb < N) : Js h' base a cap l :=
  ⟨x.1.keep fun j hj => k.old j (by
    rcases x.blk with ⟨e1, _⟩ | ⟨g, e1, _, _⟩
    · subst e1; cases hj
    · have := hN g e1; subst e1; cases hj; omega), x.2⟩
theorem Js.take {h : Heap} {base : Nat} {a : Option Addr} {cap : Nat} {l : List JV} (x : Js h base a cap l) (n : Nat) (hl : l ≠ []) : Js h base a cap (l.take n) := by
  rcases x.blk with ⟨_, q⟩ | ⟨g, rfl, hg, _⟩
  · exact absurd q hl
  · obtain ⟨cur, h1, h2, h3⟩ := x.blkAt
    have hn := x.2
    refine Js.of_blk h1 h2 ?_ hg (by rw [List.length_take]; omega) x.capLe
    have h4 := congrArg (List.take ((l.take n).length * 4)) h3
    rw [List.take_take, Nat.min_eq_left (by rw [List.length_take]; omega)] at h4
    have e : flJ l = flJ (l.take n) ++ flJ (l.drop n) := by rw [← flJ_append, List.take_append_drop]
    have e4 : (flJ (l.take n)).length = (l.take n).length * 4 := flJ_len _
    rw [h4, e, List.take_append_of_le_length (Nat.le_of_eq e4.symm), List.take_of_length_le (Nat.le_of_eq e4)]
/-- A row that is handed back if it is right. -/
theorem fineJ_ch (h : Heap) (l : List JV) (a : Option Addr) (base n cap : Nat) (hn : n = l.length) (hJ : Js h base a cap l) (hl : l.length ≤ 100000) (hOk : OkJ l) :
    CH Tryz.prog 50 #[.slice a n cap] h fun v h' => (∃ a' c', v = .slice a' (wholeO l).length c' ∧ Js h' base a' c' (wholeO l)) ∧ Ext h h' :=
  (fine_ch h l a n cap hn hJ.jvs hl hOk).mono fun v h' ⟨q, X⟩ => ⟨by
    subst hn
    unfold wholeO
    cases hr : rightO l with
    | true => rw [hr] at q; exact ⟨a, cap, q, hJ.ext X⟩
    | false => rw [hr] at q; exact ⟨none, 0, q, Js.start _ _⟩, X⟩
theorem right_validkey {l : List JV} (h : rightO l = true) {x : JV} (hx : x ∈ l) : validO x.2.1 = true := ((rightO_iff l).1 h).2.keys x hx
/-- A key that is not valid is no one's. -/
theorem get_valid {l : List JV} {key : List UInt8} (h : rightO l = true) (hk : validO key = false) : getO l 0 key = -1 := by
  unfold getO
  rw [List.find?_eq_none.2 fun k hk' => ?_]
  have hlt := places_lt hk'
  intro q
  have q : keyAt l k = key := by simpa using q
  have hm : k.toNat < l.length := by omega
  have := right_validkey h (List.getElem_mem hm)
  unfold keyAt at q
  rw [List.getD_eq_getElem?_getD, List.getElem?_eq_getElem hm] at q
  rw [show (l[k.toNat]).2.1 = key from q, hk] at this
  cases this
theorem set_valid {l v : List JV} {key : List UInt8} (hk : validO key = false) : setO l key v = [] := by
  by_cases hc : objO l = false ∨ rightO v = false
  · unfold setO; rw [if_pos hc]
  · have ho : objO l = true := by
      cases q : objO l with
      | true => rfl
      | false => exact absurd (.inl q) hc
    have hv : rightO v = true := by
      cases q : rightO v with
      | true => rfl
      | false => exact absurd (.inr q) hc
    have hl : rightO l = true := by
      unfold objO at ho
      rw [Bool.and_eq_true] at ho
      exact ho.1
    unfold setO
    rw [if_neg hc, get_valid hl hk, if_neg (by decide)]
    unfold wholeO
    rw [if_neg]
    intro hr
    obtain ⟨x, r, rfl⟩ : ∃ x r, v = x :: r := by
      cases v with
      | nil => exact absurd rfl (right_ne hv)
      | cons x r => exact ⟨x, r, rfl⟩
    obtain ⟨y, s, rfl⟩ : ∃ y s, l = y :: s := by
      cases l with
      | nil => exact absurd rfl (right_ne hl)
      | cons y s => exact ⟨y, s, rfl⟩
    have := right_validkey hr (x := (x.1, key, x.2.2)) (by simp [plusC, namedO])
    rw [hk] at this
    cases this
end Go.Proofs.YtjopikfkgjbcgaaGreatDoor
