/- What is set, what is dropped: jobj.Set, Drop. -/
import Derived.Test.YtjopikfkgjbcgaaGreatDoorOm
namespace Go.Proofs.YtjopikfkgjbcgaaGreatDoor
set_option linter.unnecessarySimpa false
set_option linter.unusedSimpArgs false
set_option linter.unusedVariables false
open Go.RowKit
theorem plusC_len (l : List JV) (d : Int) : (plusC l d).length = l.length := by cases l <;> rfl
theorem Js.plus {h h' : Heap} {base g cap : Nat} {l : List JV} {d c : Int} {cur : List Value} (x : Js h base (some ⟨g, 0, none⟩) cap l) (hl : l ≠ []) (hb : h[g]? = some (.cells cur.toArray 41 (0, 0))) (hc : c = (l.getD 0 zJ).2.2.2 + d) (w : Wr h h' g (.cells (cur.set 3 (I64 c)).toArray 41 (0, 0))) : Js h' base (some ⟨g, 0, none⟩) cap (plusC l d) := by
  subst hc
  obtain ⟨cur', h1, h2, h3⟩ := x.blkAt
  rw [hb] at h1
  have e1 : cur = cur' := by
    have := Option.some.inj h1
    injection this with q
    have := congrArg Array.toList q
    simpa using this
  subst e1
  obtain ⟨hg, _⟩ : base ≤ g ∧ g < h.size := by
    rcases x.blk with ⟨q, _⟩ | ⟨g', q, q1, q2⟩
    · cases q
    · cases q; exact ⟨q1, q2⟩
  cases l with
  | nil => exact absurd rfl hl
  | cons y r =>
    refine Js.of_blk w.new (by rw [List.length_set]; exact h2) ?_ hg (by have := x.2; simpa [plusC] using this) x.capLe
    have e2 : (cur.set 3 (I64 ((y :: r).getD 0 zJ |>.2.2.2 |> (· + d)))).take ((y :: r).length * 4) = (flJ (y :: r)).set 3 (I64 ((y :: r).getD 0 zJ |>.2.2.2 |> (· + d))) := by rw [← h3, List.take_set]
    have e3 : (plusC (y :: r) d).length = (y :: r).length := rfl
    rw [e3]
    exact e2.trans rfl
theorem OkJ.sub {l m : List JV} (h : OkJ l) (k : ∀ x ∈ m, x ∈ l) : OkJ m := fun x hx => h x (k x hx)
theorem OkJ.append {l m : List JV} (h : OkJ l) (k : OkJ m) : OkJ (l ++ m) := fun x hx => (List.mem_append.1 hx).elim (h x) (k x)
theorem OkJ.take {l : List JV} (h : OkJ l) (n : Nat) : OkJ (l.take n) := h.sub fun _ hx => List.mem_of_mem_take hx
theorem OkJ.drop {l : List JV} (h : OkJ l) (n : Nat) : OkJ (l.drop n) := h.sub fun _ hx => List.mem_of_mem_drop hx
theorem OkJ.named {l : List JV} {key : List UInt8} (h : OkJ l) (hk : key.length ≤ 140737488355328) : OkJ (namedO l key) := by
  cases l with
  | nil => exact h
  | cons y r =>
    intro x hx
    rcases List.mem_cons.1 hx with rfl | hx
    · exact ⟨hk, (h y (List.mem_cons_self ..)).2⟩
    · exact h x (List.mem_cons_of_mem _ hx)
theorem OkJ.plus {l : List JV} {d : Int} (h : OkJ l) (hd : (l.getD 0 zJ).2.2.2 + d ≤ 9223372036854775807) : OkJ (plusC l d) := by
  cases l with
  | nil => exact h
  | cons y r =>
    intro x hx
    rcases List.mem_cons.1 hx with rfl | hx
    · exact ⟨(h y (List.mem_cons_self ..)).1, (h y (List.mem_cons_self ..)).2.1, hd⟩
    · exact h x (List.mem_cons_of_mem _ hx)
/-- A row that is handed back if it is right. -/
theorem wholeJ_ch (h : Heap) (l : List JV) (a : Option Addr) (base n cap : Nat) (hn : n = l.length) (hJ : Js h base a cap l) (hP : Plc h) (hl : l.length ≤ 100000) (hOk : OkJ l) :
    CH Tryz.prog 34 #[.slice a n cap] h fun v h' => (∃ a' c', v = .slice a' (wholeO l).length c' ∧ Js h' base a' c' (wholeO l)) ∧ Ext h h' :=
  (whole_ch h l a n cap hn hJ.jvs hP hl hOk).mono fun v h' ⟨q, X⟩ => ⟨by
    subst hn
    unfold wholeO
    cases hr : rightO l with
    | true => rw [hr] at q; exact ⟨a, cap, q, hJ.ext X⟩
    | false => rw [hr] at q; exact ⟨none, 0, q, Js.start _ _⟩, X⟩
theorem endE_ch (h : Heap) (l : List JV) (a : Option Addr) (n cap : Nat) (at0 : Int) (hn : n = l.length) (hB : Jvs h a l) (hl : l.length ≤ 1000000) : CH Tryz.prog 32 #[.slice a n cap, I64 at0] h fun v h' => v = I64 (endO l at0) ∧ Ext h h' :=
  (end_ch h l a n cap at0 hn hB hl).mono fun _ _ ⟨q1, q2⟩ => ⟨q1, by rw [q2]; exact Bel.refl _ _⟩
set_option maxRecDepth 10000 in
set_option maxHeartbeats 2000000 in
theorem set_ch (h : Heap) (l v0 : List JV) (a va : Option Addr) (n cap vn vc : Nat) (key : List UInt8) (hn : n = l.length) (hcap : l.length ≤ cap) (hvn : vn = v0.length) (hB : Jvs h a l) (hV : Jvs h va v0) (hP : Plc h) (hl : l.length ≤ 10000) (hvl : v0.length ≤ 10000) (hOk : OkJ l) (hOv : OkJ v0) (hk : key.length ≤ 140737488355328) :
    CH Tryz.prog 18 #[.slice a n cap, .string (strOf key), .slice va vn vc] h fun v h' => ∃ a' c', v = .slice a' (setO l key v0).length c' ∧ Js h' h.size a' c' (setO l key v0) ∧ Ext h h' := by
  subst hn hvn
  refine CH.of_body Tryz.func18 rfl rfl rfl ?_
  intro f hf
  have p0 : f 0 = .slice a l.length cap := by rw [hf]; exact fr0_at rfl
  have p1 : f 1 = .string (strOf key) := by rw [hf]; exact fr0_at rfl
  have p2 : f 2 = .slice va v0.length vc := by rw [hf]; exact fr0_at rfl
  have hOb := object_ch h l a l.length cap rfl hB hP (by omega) hOk
  -- region 0
  repeat refine HW.seq ?_
  refine HW.region ?_
  refine HL.still (Runs.assign rfl) ?_
  intro u6 e6
  refine HL.nil ?_
  cases ho : objO l with
  | false =>
    rw [ho] at hOb
    have hs : setO l key v0 = [] := by unfold setO; rw [if_pos (.inl ho)]
    -- region 1
    repeat refine HW.seq ?_
    refine HW.region ?_
    refine HL.still (Runs.move p0) ?_
    intro u9 e9
    refine HL.one (HO.call Tryz.func33 bd33 nm33 (args1 e9) rfl ((hOb).mono ?_))
    rintro _ h2 ⟨rfl, X2⟩
    intro u10 e10
    refine HL.still (Runs.notb e10 (u := true) rfl) ?_
    intro u11 e11
    refine HL.still (Runs.move e11) ?_
    intro u12 e12
    refine HL.skipG rfl rfl e12 ?_
    intro u13 e13
    refine HL.skipG rfl rfl e12 ?_
    intro u14 e14
    refine HL.skipG rfl rfl e12 ?_
    intro u15 e15
    refine HL.still (Runs.pick e12 rfl) ?_
    intro u16 e16
    refine HL.nil ?_
    refine HW.yes e16 ?_
    -- region 2
    repeat refine HW.seq ?_
    refine HW.region ?_
    refine HL.still (Runs.assign rfl) ?_
    intro u6 e6
    refine HL.nil ?_
    refine HW.ret ?_
    exact RT.one rfl e6 ⟨none, 0, by rw [hs]; rfl, by rw [hs]; exact Js.start _ _, X2⟩
  | true =>
    rw [ho] at hOb
    have hR : ∀ u, Ext h u → CH Tryz.prog 30 #[.slice va v0.length vc] u fun v h' => v = .bool (rightO v0) ∧ Ext u h' := fun u X => right_ch u v0 va v0.length vc rfl (hV.ext X) (hP.ext X) (by omega) hOv
    cases hr : rightO v0 with
    | false =>
      rw [hr] at hR
      have hs : setO l key v0 = [] := by unfold setO; rw [if_pos (.inr hr)]
      -- region 1
      repeat refine HW.seq ?_
      refine HW.region ?_
      refine HL.still (Runs.move p0) ?_
      intro u9 e9
      refine HL.one (HO.call Tryz.func33 bd33 nm33 (args1 e9) rfl ((hOb).mono ?_))
      rintro _ h2 ⟨rfl, X2⟩
      intro u10 e10
      refine HL.still (Runs.notb e10 (u := false) rfl) ?_
      intro u11 e11
      refine HL.still (Runs.move e11) ?_
      intro u12 e12
      refine HL.stillG rfl rfl e12 (Runs.move p2) ?_
      intro u13 e13
      refine HL.oneG rfl rfl e12 (HO.call Tryz.func30 bd30 nm30 (args1 e13) rfl ((hR _ X2).mono ?_))
      rintro _ h3 ⟨rfl, X3⟩
      intro u14 e14
      refine HL.stillG rfl rfl e12 (Runs.notb e14 (u := true) rfl) ?_
      intro u15 e15
      refine HL.still (Runs.pick e12 e15) ?_
      intro u16 e16
      refine HL.nil ?_
      refine HW.yes e16 ?_
      -- region 2
      repeat refine HW.seq ?_
      refine HW.region ?_
      refine HL.still (Runs.assign rfl) ?_
      intro u6 e6
      refine HL.nil ?_
      refine HW.ret ?_
      exact RT.one rfl e6 ⟨none, 0, by rw [hs]; rfl, by rw [hs]; exact Js.start _ _, X2.ext X3 (Nat.le_refl _)⟩
    | true =>
      rw [hr] at hR
      have hrl : rightO l = true := by
        unfold objO at ho
        rw [Bool.and_eq_true] at ho
        exact ho.1
      have hlp : 0 < l.length := List.length_pos_iff.2 (right_ne hrl)
      have hnl : (namedO v0 key).length = v0.length := namedO_len _ _
      -- region 1
      repeat refine HW.seq ?_
      refine HW.region ?_
      refine HL.still (Runs.move p0) ?_
      intro u9 e9
      refine HL.one (HO.call Tryz.func33 bd33 nm33 (args1 e9) rfl ((hOb).mono ?_))
      rintro _ h2 ⟨rfl, X2⟩
      intro u10 e10
      refine HL.still (Runs.notb e10 (u := false) rfl) ?_
      intro u11 e11
      refine HL.still (Runs.move e11) ?_
      intro u12 e12
      refine HL.stillG rfl rfl e12 (Runs.move p2) ?_
      intro u13 e13
      refine HL.oneG rfl rfl e12 (HO.call Tryz.func30 bd30 nm30 (args1 e13) rfl ((hR _ X2).mono ?_))
      rintro _ h3 ⟨rfl, X3⟩
      intro u14 e14
      refine HL.stillG rfl rfl e12 (Runs.notb e14 (u := false) rfl) ?_
      intro u15 e15
      refine HL.still (Runs.pick e12 e15) ?_
      intro u16 e16
      refine HL.nil ?_
      refine HW.no e16 ?_
      refine HW.skip ?_
      have X03 : Ext h h3 := X2.ext X3 (Nat.le_refl _)
      -- region 3
      repeat refine HW.seq ?_
      refine HW.region ?_
      refine HL.still (Runs.move p2) ?_
      intro u17 e17
      refine HL.still (Runs.move p1) ?_
      intro u18 e18
      refine HL.one (HO.call Tryz.func31 bd31 nm31 (args2 e17 e18) rfl ((named_ch h3 v0 va v0.length vc key rfl (hV.ext X03) (by omega)).mono ?_))
      rintro _ h4 ⟨va', vc', rfl, J4, X4⟩
      intro u19 e19
      refine HL.still (Runs.assign e19) ?_
      intro u2 e2
      refine HL.nil ?_
      have g2 := e2
      have X04 : Ext h h4 := X03.ext X4 (Nat.le_refl _)
      have hB4 := hB.ext X04
      have hG := get_ch h4 l a l.length cap 0 key rfl hB4 (hP.ext X04) (by omega) hOk
      have hgr := getO_range l 0 key
      by_cases hk0 : getO l 0 key ≥ 0
      · obtain ⟨k, hkE⟩ : ∃ k : Nat, getO l 0 key = k := ⟨(getO l 0 key).toNat, by omega⟩
        have hkl : k < l.length := by omega
        obtain ⟨hE1, hE2⟩ := endO_right hrl hkl
        obtain ⟨E, hE⟩ : ∃ E : Nat, endO l (k : Nat) = E := ⟨(endO l (k : Nat)).toNat, by omega⟩
        have hs : setO l key v0 = wholeO (l.take k ++ (namedO v0 key ++ l.drop E)) := by
          unfold setO
          rw [if_neg (by rw [ho, hr]; simp), if_pos hk0, hkE, hE]
          rfl
        rw [hE] at hE1 hE2
        rw [hkE] at hG
        -- region 4
        repeat refine HW.seq ?_
        refine HW.region ?_
        refine HL.still (Runs.move p0) ?_
        intro u20 e20
        refine HL.still (Runs.move p1) ?_
        intro u21 e21
        refine HL.one (HO.call Tryz.func15 bd15 nm15 (args3 e20 rfl e21) rfl ((hG).mono ?_))
        rintro _ h5 ⟨rfl, X5⟩
        intro u22 e22
        refine HL.still (Runs.assign e22) ?_
        intro u7 e7
        refine HL.nil ?_
        have g7 := e7
        -- region 5
        repeat refine HW.seq ?_
        refine HW.region ?_
        refine HL.still (Runs.move g7) ?_
        intro u23 e23
        refine HL.still (Runs.geq e23 rfl (t := true) (decide_eq_true (by omega))) ?_
        intro u24 e24
        refine HL.nil ?_
        refine HW.yes e24 ?_
        have X05 : Ext h h5 := X04.ext X5 (Nat.le_refl _)
        have hB5 := hB.ext X05
        have J5 := J4.ext X5
        have hP5 := hP.ext X05
        have hA : Jvs h5 (if cap = 0 then a else a.map (·.add (0 * 4))) (l.take k) := by
          have := (hB5.take k).drop (a' := _) (cap := cap) 0 (by rw [List.length_take]; omega) (Nat.zero_le _) rfl
          rwa [List.drop_zero] at this
        have hD : Jvs h5 (if cap = E then a else a.map (·.add (E * 4))) (l.drop E) := hB5.drop E hcap (by omega) rfl
        have htl : (l.take k).length = k := by rw [List.length_take]; omega
        have hdl : (l.drop E).length = l.length - E := List.length_drop
        obtain ⟨rA, hrA⟩ : ∃ rA : RowJ, rA = ((if cap = 0 then a else a.map (·.add (0 * 4))), cap - 0, l.take k) := ⟨_, rfl⟩
        obtain ⟨rV, hrV⟩ : ∃ rV : RowJ, rV = (va', vc', namedO v0 key) := ⟨_, rfl⟩
        obtain ⟨rD, hrD⟩ : ∃ rD : RowJ, rD = ((if cap = E then a else a.map (·.add (E * 4))), cap - E, l.drop E) := ⟨_, rfl⟩
        have hfl : flatJ [rA, rV, rD] = l.take k ++ (namedO v0 key ++ l.drop E) := by rw [hrA, hrV, hrD]; simp [flatJ]
        have hflen : (l.take k ++ (namedO v0 key ++ l.drop E)).length ≤ 100000 := by rw [List.length_append, List.length_append, htl, hdl, hnl]; omega
        have hOkC : OkJ (l.take k ++ (namedO v0 key ++ l.drop E)) := (hOk.take k).append ((hOv.named hk).append (hOk.drop E))
        have hrows : ∀ x ∈ [rA, rV, rD], Jvs h5 x.1 x.2.2 ∧ x.2.2.length ≤ x.2.1 := fun x hx => by
          simp only [List.mem_cons, List.not_mem_nil, or_false] at hx
          rcases hx with rfl | rfl | rfl
          · rw [hrA]; exact ⟨hA, by simp only [htl]; omega⟩
          · rw [hrV]; exact ⟨J5.jvs, J5.2⟩
          · rw [hrD]; exact ⟨hD, by simp only [hdl]; omega⟩
        have vA : Value.slice (if cap = 0 then a else a.map (·.add (0 * 4))) (k - 0) (cap - 0) = rowV rA := by rw [hrA]; simp only [rowV, htl, Nat.sub_zero]
        have vD : Value.slice (if cap = E then a else a.map (·.add (E * 4))) (l.length - E) (cap - E) = rowV rD := by rw [hrD]; simp only [rowV, hdl]
        have vV : Value.slice va' (namedO v0 key).length vc' = rowV rV := by rw [hrV]; rfl
        -- region 6
        repeat refine HW.seq ?_
        refine HW.grow #[0, 0, 3, 0, 0, 0, 0, 96, 240, 511, 1023, 2047, 4095] (fun a b => Ext a b) mixed (by kernel_rfl) (fun _ => Bel.refl _ _) (fun _ _ _ x y => Bel.ext x y (Nat.le_refl _)) ?_
        refine HM.still (fun _ => Bel.refl _ _) (fun f h K => Runs.move ((K.keep (by kernel_rfl)).trans p0)) ?_
        refine HM.still (fun _ => Bel.refl _ _) (fun f h K => Runs.move ((K.keep (by kernel_rfl)).trans g7)) ?_
        refine HM.still (fun _ => Bel.refl _ _) (fun f h K => Runs.sliceSl Tryz.underlying26 sz41 (K.at 0 25 rfl rfl) (lo := 0) (hi := k) rfl ⟨_, K.at 1 26 rfl rfl⟩ (Nat.zero_le _) (by omega) rfl) ?_
        refine HM.still (fun _ => Bel.refl _ _) (fun f h K => Runs.move ((K.keep (by kernel_rfl)).trans g2)) ?_
        refine HM.still (fun _ => Bel.refl _ _) (fun f h K => Runs.move ((K.keep (by kernel_rfl)).trans p0)) ?_
        refine HM.still (fun _ => Bel.refl _ _) (fun f h K => Runs.move ((K.keep (by kernel_rfl)).trans p0)) ?_
        refine HM.still (fun _ => Bel.refl _ _) (fun f h K => Runs.move ((K.keep (by kernel_rfl)).trans g7)) ?_
        refine HM.one (fun x _ => x = _) (fun _ _ _ _ e => e) (fun f h K => HO.call Tryz.func32 bd32 nm32 (args2 (K.at 5 30 rfl rfl) (K.at 6 31 rfl rfl)) rfl ((endE_ch h l a l.length cap (k : Nat) rfl (hB5.ext K.grown) (by omega)).mono fun _ _ q => ⟨q.2, q.1⟩)) ?_
        refine HM.still (fun _ => Bel.refl _ _) (fun f h K => Runs.sliceSl Tryz.underlying26 sz41 (K.at 4 29 rfl rfl) (lo := E) (hi := l.length) ⟨_, (K.at 7 32 rfl rfl).trans (congrArg (Value.int .i64) hE)⟩ rfl (by omega) (by omega) rfl) ?_
        refine HM.one (fun v hh => ∃ b, v = .slice (some ⟨b, 0, none⟩) 3 3 ∧ Jvss hh (some ⟨b, 0, none⟩) [rA, rV, rD]) (fun v u u' X ⟨b, q1, q2⟩ => ⟨b, q1, q2.ext X⟩) (fun f hh K => HO.rows3 rA rV rD ((K.at 2 27 rfl rfl).trans vA) ((K.at 3 28 rfl rfl).trans vV) ((K.at 8 33 rfl rfl).trans vD) fun h' w => ⟨w.ext, hh.size, rfl, jvss_block w.new fun x hx => ⟨(hrows x hx).1.ext (Bel.ext K.grown w.ext (Nat.le_refl _)), (hrows x hx).2⟩⟩) ?_
        refine HM.one (fun v hh => ∃ a c, v = .slice a (l.take k ++ (namedO v0 key ++ l.drop E)).length c ∧ Js hh h.size a c (l.take k ++ (namedO v0 key ++ l.drop E))) (fun v u u' X ⟨a, c, q1, q2⟩ => ⟨a, c, q1, q2.ext X⟩) (fun f hh K => by obtain ⟨b, q1, q2⟩ := K.at 9 34 rfl rfl; exact HO.call Tryz.func35 bd35 nm35 (args1 q1) rfl ((concat_ch hh [rA, rV, rD] _ 3 3 rfl q2 (by rw [hfl]; exact hflen) (by simp)).mono fun v h' ⟨a, c, q3, q4, q5⟩ => ⟨q5, a, c, by rw [← hfl]; exact q3, by rw [← hfl]; exact q4.low (Nat.le_trans X05.size (Bel.size K.grown))⟩)) ?_
        refine HM.one (fun v hh => ∃ a c, v = .slice a (setO l key v0).length c ∧ Js hh h.size a c (setO l key v0)) (fun v u u' X ⟨a, c, q1, q2⟩ => ⟨a, c, q1, q2.ext X⟩) (fun f hh K => by obtain ⟨a, c, q1, q2⟩ := K.at 10 35 rfl rfl; exact HO.call Tryz.func34 bd34 nm34 (args1 q1) rfl ((wholeJ_ch hh _ a h.size _ c rfl q2 (hP5.ext K.grown) hflen hOkC).mono fun v h' ⟨q3, q4⟩ => ⟨q4, by rw [hs]; exact q3⟩)) ?_
        refine HM.one (fun v hh => ∃ a c, v = .slice a (setO l key v0).length c ∧ Js hh h.size a c (setO l key v0)) (fun v u u' X ⟨a, c, q1, q2⟩ => ⟨a, c, q1, q2.ext X⟩) (fun f hh K => HO.of_runs (Runs.assign rfl) ⟨Bel.refl _ _, K.at 11 36 rfl rfl⟩) ?_
        rintro f' h' X V O
        obtain ⟨a', c', q1, q2⟩ : ∃ a c, f' 6 = .slice a (setO l key v0).length c ∧ Js h' h.size a c (setO l key v0) := last_at V 12 6 rfl
        refine HW.ret ?_
        exact RT.one rfl q1 ⟨a', c', rfl, q2, X05.ext X (Nat.le_refl _)⟩
      · have hkE : getO l 0 key = -1 := by omega
        have hs : setO l key v0 = wholeO (plusC (l ++ namedO v0 key) 1) := by
          unfold setO
          rw [if_neg (by rw [ho, hr]; simp), if_neg hk0]
        rw [hkE] at hG
        have hcl := count_le hrl hlp
        have hcn := count_nn hrl hlp
        obtain ⟨x, hx⟩ : ∃ x, x = l.getD 0 zJ := ⟨_, rfl⟩
        have hx2 : (l ++ namedO v0 key).getD 0 zJ = x := by
          cases l with
          | nil => cases hlp
          | cons y r => rw [hx]; rfl
        rw [← hx] at hcl hcn
        have hflen : (l ++ namedO v0 key).length ≤ 100000 := by rw [List.length_append, hnl]; omega
        have hOkC : OkJ (plusC (l ++ namedO v0 key) 1) := (hOk.append (hOv.named hk)).plus (by rw [hx2]; omega)
        have hne : l ++ namedO v0 key ≠ [] := by
          intro e
          have := congrArg List.length e
          rw [List.length_append, List.length_nil] at this
          omega
        -- region 4
        repeat refine HW.seq ?_
        refine HW.region ?_
        refine HL.still (Runs.move p0) ?_
        intro u20 e20
        refine HL.still (Runs.move p1) ?_
        intro u21 e21
        refine HL.one (HO.call Tryz.func15 bd15 nm15 (args3 e20 rfl e21) rfl ((hG).mono ?_))
        rintro _ h5 ⟨rfl, X5⟩
        intro u22 e22
        refine HL.still (Runs.assign e22) ?_
        intro u7 e7
        refine HL.nil ?_
        have g7 := e7
        -- region 5
        repeat refine HW.seq ?_
        refine HW.region ?_
        refine HL.still (Runs.move g7) ?_
        intro u23 e23
        refine HL.still (Runs.geq e23 rfl (t := false) rfl) ?_
        intro u24 e24
        refine HL.nil ?_
        refine HW.no e24 ?_
        refine HW.skip ?_
        have X05 : Ext h h5 := X04.ext X5 (Nat.le_refl _)
        have hB5 := hB.ext X05
        have J5 := J4.ext X5
        have hrows : ∀ u, Ext h5 u → ∀ x ∈ [((a, cap, l) : RowJ), (va', vc', namedO v0 key)], Jvs u x.1 x.2.2 ∧ x.2.2.length ≤ x.2.1 := fun u X x hx => by
          simp only [List.mem_cons, List.not_mem_nil, or_false] at hx
          rcases hx with rfl | rfl
          · exact ⟨hB5.ext X, hcap⟩
          · exact ⟨(J5.ext X).jvs, J5.2⟩
        have hfl0 : (flatJ [((a, cap, l) : RowJ), (va', vc', namedO v0 key)]).length ≤ 100000 := by simpa [flatJ] using hflen
        -- region 7
        repeat refine HW.seq ?_
        refine HW.region ?_
        refine HL.still (Runs.move p0) ?_
        intro u37 e37
        refine HL.still (Runs.move g2) ?_
        intro u38 e38
        refine HL.one (HO.rows2 (a, cap, l) (va', vc', namedO v0 key) e37 e38 ?_)
        intro h6 w6
        intro u39 e39
        refine HL.one (HO.call Tryz.func35 bd35 nm35 (args1 e39) rfl ((concat_ch h6 [((a, cap, l) : RowJ), (va', vc', namedO v0 key)] _ 2 2 rfl (jvss_block w6.new (hrows _ w6.ext)) hfl0 (by simp)).mono ?_))
        rintro _ h7 ⟨a7, c7, rfl, J7, X7⟩
        intro u40 e40
        refine HL.still (Runs.assign e40) ?_
        intro u8 e8
        refine HL.nil ?_
        have hfl : flatJ [(a, cap, l), (va', vc', namedO v0 key)] = l ++ namedO v0 key := by simp [flatJ]
        rw [hfl] at J7 e8
        have g8 := e8
        have X07 : Ext h h7 := (X05.ext w6.ext (Nat.le_refl _)).ext X7 (Nat.le_refl _)
        obtain ⟨g, rfl, hgb, hgl⟩ : ∃ g, a7 = some ⟨g, 0, none⟩ ∧ h6.size ≤ g ∧ g < h7.size := by
          rcases J7.blk with ⟨_, q⟩ | q
          · exact absurd q hne
          · exact q
        obtain ⟨cur, hb7, hcl7, _⟩ := J7.blkAt
        have hcap7 := J7.2
        have hpos : 0 < (l ++ namedO v0 key).length := List.length_pos_iff.2 hne
        obtain ⟨sb, so, e', hc7⟩ := J7.jvs.at hpos
        cases e'
        rw [hx2] at hc7
        have hc3 : cellH h7 g 3 = some (I64 x.2.2.2) := by have := hc7 3 _ rfl; simpa using this
        -- region 8
        repeat refine HW.seq ?_
        refine HW.region ?_
        refine HL.still (Runs.move g8) ?_
        intro u41 e41
        refine HL.still (Runs.ixSl (o' := 0) Tryz.underlying26 sz41 e41 rfl (by omega) (by omega) (by omega)) ?_
        intro u42 e42
        refine HL.still (Runs.fld (o' := 3) Tryz.underlying41 rfl sz3 (by decide) e42 (by rfl)) ?_
        intro u43 e43
        refine HL.still (Runs.load Tryz.underlying3 rfl e43 hc3) ?_
        intro u44 e44
        refine HL.still (Runs.add e44 rfl (c := x.2.2.2 + 1) (i64w (by omega))) ?_
        intro u45 e45
        refine HL.still (Runs.ixSl (o' := 0) Tryz.underlying26 sz41 e41 rfl (by omega) (by omega) (by omega)) ?_
        intro u46 e46
        refine HL.still (Runs.fld (o' := 3) Tryz.underlying41 rfl sz3 (by decide) e46 (by rfl)) ?_
        intro u47 e47
        refine HL.zero (HO.store (s := 1) sz3 e47 e45 rfl hb7 (by omega) rfl ?_)
        intro h8 w8
        refine HL.nil ?_
        have J8 := J7.plus (d := 1) hne hb7 (by rw [hx2]) w8
        have X08 : Ext h h8 := X07.wr w8 (by have := X05.size; have := w6.size; omega)
        have hpl : (plusC (l ++ namedO v0 key) 1).length = (l ++ namedO v0 key).length := plusC_len _ _
        -- region 9
        repeat refine HW.seq ?_
        refine HW.region ?_
        refine HL.still (Runs.move g8) ?_
        intro u48 e48
        refine HL.one (HO.call Tryz.func34 bd34 nm34 (args1 e48) rfl ((wholeJ_ch h8 _ _ h.size _ c7 hpl.symm (J8.low (by have := X05.size; have := w6.size; omega)) (hP.ext X08) (by rw [hpl]; exact hflen) hOkC).mono ?_))
        rintro _ h9 ⟨⟨a9, c9, rfl, J9⟩, X9⟩
        intro u49 e49
        refine HL.still (Runs.assign e49) ?_
        intro u6 e6
        refine HL.nil ?_
        refine HW.ret ?_
        exact RT.one rfl e6 ⟨a9, c9, by rw [hs], by rw [hs]; exact J9, X08.ext X9 (Nat.le_refl _)⟩
end Go.Proofs.YtjopikfkgjbcgaaGreatDoor
