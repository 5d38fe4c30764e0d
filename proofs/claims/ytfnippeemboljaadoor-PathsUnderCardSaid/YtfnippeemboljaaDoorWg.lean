/- Unmark, both. -/
import Derived.Test.YtfnippeemboljaaDoorWf
namespace Go.Proofs.YtfnippeemboljaaDoor
set_option linter.unnecessarySimpa false
set_option linter.unusedSimpArgs false
set_option linter.unusedVariables false
open Go.RowKit
theorem below_le (p n : Str) : (belowO p n).length ≤ p.length + 1 + n.length := by
  unfold belowO
  split
  · omega
  · simp; omega
theorem unmarkS_le (op : Int) (s : Str) : (unmarkS op s).length ≤ s.length + s.length + 20 := by
  have h1 := parent_le s
  have h2 := last_len s
  unfold unmarkS
  split
  · have := below_le (parentO s) (wh ++ lastS (parts s))
    rw [List.length_append] at this
    have : wh.length = 4 := rfl
    omega
  · split
    · have := below_le s opq
      have : opq.length = 12 := rfl
      omega
    · omega
theorem un_if (op : Int) (s : Str) (b : Bool) (h : ((!(markO (unmarkS op s)).2.2 || (markO (unmarkS op s)).1 != op) || !((markO (unmarkS op s)).2.1 == s)) = b) : unmarkO op s = if b = true then ([], false) else (unmarkS op s, true) := by
  unfold unmarkO
  obtain ⟨m, hm⟩ : ∃ m, m = markO (unmarkS op s) := ⟨_, rfl⟩
  rw [← hm] at h ⊢
  obtain ⟨a, p, k⟩ := m
  by_cases e : (a, p, k) = (op, s, true)
  · rw [if_pos e]
    simp only [Prod.mk.injEq] at e
    obtain ⟨rfl, rfl, rfl⟩ := e
    rw [← h]
    simp
  · rw [if_neg e]
    have : b = true := by
      rw [← h]
      refine Decidable.byContradiction fun q => e ?_
      rw [Bool.not_eq_true] at q
      simp only [Bool.or_eq_false_iff, Bool.not_eq_false', bne_eq_false_iff_eq, beq_iff_eq] at q
      obtain ⟨⟨rfl, rfl⟩, rfl⟩ := q
      rfl
    rw [if_pos this]
theorem unmark_ch (h : Heap) (op : Int) (s : Str) (hs : s.length ≤ 4500) : CH Tryd.prog 19 #[I64 op, S8 s] h fun v h' => v = .tuple #[S8 (unmarkO op s).1, .bool (unmarkO op s).2] ∧ Ext h h' := by
  refine CH.of_body Tryd.func19 rfl rfl rfl ?_
  intro f hf
  have p0 : f 0 = I64 op := by rw [hf]; exact fr0_at rfl
  have p1 : f 1 = S8 s := by rw [hf]; exact fr0_at rfl
  have hpl := parent_le s
  have hll := last_len s
  have hul := unmarkS_le op s
  -- region 0
  repeat refine HW.seq ?_
  refine HW.region ?_
  refine HL.still (Runs.assign rfl) ?_
  intro u4 e4
  refine HL.still (Runs.assign rfl) ?_
  intro u5 e5
  refine HL.nil ?_
  -- region 1
  repeat refine HW.seq ?_
  refine HW.region ?_
  refine HL.still (Runs.move p1) ?_
  intro u12 e12
  refine HL.still (Runs.assign e12) ?_
  intro u6 e6
  refine HL.nil ?_
  -- region 2
  repeat refine HW.seq ?_
  refine HW.region ?_
  refine HL.still (Runs.move p0) ?_
  intro u13 e13
  refine HL.nil ?_
  repeat refine HW.seq ?_
  refine HW.mono (N := fun f' g => g = h ∧ f' 0 = I64 op ∧ f' 1 = S8 s ∧ f' 6 = S8 (unmarkS op s)) ?_ ?_ (fun _ _ _ h => h) (fun _ _ h => h)
  · refine HW.block ?_
    by_cases h1 : op = 1
    · skip
      -- region 3
      repeat refine HW.seq ?_
      refine HW.region ?_
      refine HL.still (Runs.eql e13 rfl (t := true) (beq_iff_eq.2 h1)) ?_
      intro u15 e15
      refine HL.still (Runs.assign e15) ?_
      intro u14 e14
      refine HL.nil ?_
      refine HW.yes e14 ?_
      -- region 4
      repeat refine HW.seq ?_
      refine HW.region ?_
      refine HL.still (Runs.move p1) ?_
      intro u17 e17
      refine HL.one (HO.call Tryd.func34 bd34 nm34 (args1 e17) rfl ((split2_ch h s (by omega)).mono ?_))
      rintro _ h2 ⟨rfl, hh2⟩
      intro u18 e18
      refine HL.still (Runs.move e18) ?_
      intro u16 e16
      refine HL.still (Runs.extr e16 rfl) ?_
      intro u19 e19
      refine HL.still (Runs.extr e16 rfl) ?_
      intro u20 e20
      refine HL.still (Runs.assign e19) ?_
      intro u7 e7
      refine HL.still (Runs.assign e20) ?_
      intro u8 e8
      refine HL.nil ?_
      rw [hh2]
      clear hh2
      -- region 5
      repeat refine HW.seq ?_
      refine HW.region ?_
      refine HL.still (Runs.move e7) ?_
      intro u21 e21
      refine HL.still (Runs.move e8) ?_
      intro u22 e22
      refine HL.still (Runs.addS rfl e22 (xs := wh) (by have : wh.length = 4 := rfl; omega)) ?_
      intro u23 e23
      refine HL.one (HO.call Tryd.func38 bd38 nm38 (args2 e21 e23) rfl ((below_ch h (parentO s) (wh ++ lastS (parts s)) (by omega) (by rw [List.length_append]; have : wh.length = 4 := rfl; omega)).mono ?_))
      rintro _ h3 ⟨rfl, hh3⟩
      intro u24 e24
      refine HL.still (Runs.assign e24) ?_
      intro u6 e6
      refine HL.nil ?_
      exact ⟨hh3, p0, p1, e6.trans (congrArg S8 (by unfold unmarkS; rw [if_pos h1]))⟩
    · skip
      -- region 3
      repeat refine HW.seq ?_
      refine HW.region ?_
      refine HL.still (Runs.eql e13 rfl (t := false) (beq_eq_false_iff_ne.2 h1)) ?_
      intro u15 e15
      refine HL.still (Runs.assign e15) ?_
      intro u14 e14
      refine HL.nil ?_
      refine HW.no e14 ?_
      by_cases h2 : op = 2
      · skip
        -- region 6
        repeat refine HW.seq ?_
        refine HW.region ?_
        refine HL.still (Runs.eql e13 rfl (t := true) (beq_iff_eq.2 h2)) ?_
        intro u26 e26
        refine HL.still (Runs.assign e26) ?_
        intro u25 e25
        refine HL.nil ?_
        refine HW.yes e25 ?_
        -- region 7
        repeat refine HW.seq ?_
        refine HW.region ?_
        refine HL.still (Runs.move p1) ?_
        intro u27 e27
        refine HL.one (HO.call Tryd.func38 bd38 nm38 (args2 e27 rfl) rfl ((below_ch h s opq (by omega) (by decide)).mono ?_))
        rintro _ h3 ⟨rfl, hh3⟩
        intro u28 e28
        refine HL.still (Runs.assign e28) ?_
        intro u6 e6
        refine HL.nil ?_
        exact ⟨hh3, p0, p1, e6.trans (congrArg S8 (by unfold unmarkS; rw [if_neg h1, if_pos h2]))⟩
      · skip
        -- region 6
        repeat refine HW.seq ?_
        refine HW.region ?_
        refine HL.still (Runs.eql e13 rfl (t := false) (beq_eq_false_iff_ne.2 h2)) ?_
        intro u26 e26
        refine HL.still (Runs.assign e26) ?_
        intro u25 e25
        refine HL.nil ?_
        refine HW.no e25 ?_
        refine HW.skip ?_
        exact ⟨rfl, p0, p1, e6.trans (congrArg S8 (by unfold unmarkS; rw [if_neg h1, if_neg h2]))⟩
  clear e4 e5 e6 e13 p0 p1
  rintro f g ⟨hg, f0, f1, f6⟩
  rw [hg]
  clear hg
  -- region 8
  repeat refine HW.seq ?_
  refine HW.region ?_
  refine HL.still (Runs.move f6) ?_
  intro u30 e30
  refine HL.one (HO.call Tryd.func17 bd17 nm17 (args1 e30) rfl ((mark_ch h (unmarkS op s) (by omega)).mono ?_))
  rintro _ h2 ⟨rfl, X2⟩
  intro u31 e31
  refine HL.still (Runs.move e31) ?_
  intro u29 e29
  refine HL.still (Runs.extr e29 rfl) ?_
  intro u32 e32
  refine HL.still (Runs.extr e29 rfl) ?_
  intro u33 e33
  refine HL.still (Runs.extr e29 rfl) ?_
  intro u34 e34
  refine HL.still (Runs.assign e32) ?_
  intro u9 e9
  refine HL.still (Runs.assign e33) ?_
  intro u10 e10
  refine HL.still (Runs.assign e34) ?_
  intro u11 e11
  refine HL.nil ?_
  -- region 9
  repeat refine HW.seq ?_
  refine HW.region ?_
  refine HL.still (Runs.move e11) ?_
  intro u35 e35
  refine HL.still (Runs.notb e35 (t := (markO (unmarkS op s)).2.2) (u := !(markO (unmarkS op s)).2.2) rfl) ?_
  intro u36 e36
  refine HL.still (Runs.move e36) ?_
  intro u37 e37
  refine HL.anyG rfl rfl e37 (fun hg => Runs.move e9) ?_
  intro u38 e38
  refine HL.anyG rfl rfl e37 (fun hg => Runs.move f0) ?_
  intro u39 e39
  refine HL.anyG rfl rfl e37 (fun hg => Runs.neq (e38.trans (if_pos hg)) (e39.trans (if_pos hg)) (a := (markO (unmarkS op s)).1) (b := op) rfl) ?_
  intro u40 e40
  refine HL.still (Runs.pick e37 (or_pick e40)) ?_
  intro u41 e41
  refine HL.still (Runs.move e41) ?_
  intro u42 e42
  refine HL.anyG rfl rfl e42 (fun hg => Runs.move e10) ?_
  intro u43 e43
  refine HL.anyG rfl rfl e42 (fun hg => Runs.move f1) ?_
  intro u44 e44
  refine HL.anyG rfl rfl e42 (fun hg => Runs.neqS (e43.trans (if_pos hg)) (e44.trans (if_pos hg)) (xs := (markO (unmarkS op s)).2.1) (ys := s) rfl) ?_
  intro u45 e45
  refine HL.still (Runs.pick e42 (or_pick e45)) ?_
  intro u46 e46
  refine HL.nil ?_
  cases hb : ((!(markO (unmarkS op s)).2.2 || (markO (unmarkS op s)).1 != op) || !((markO (unmarkS op s)).2.1 == s)) with
  | true =>
    refine HW.yes (e46.trans (congrArg Value.bool hb)) ?_
    -- region 10
    repeat refine HW.seq ?_
    refine HW.region ?_
    refine HL.still (Runs.assign rfl) ?_
    intro u4 e4
    refine HL.still (Runs.assign rfl) ?_
    intro u5 e5
    refine HL.nil ?_
    refine HW.ret ?_
    exact RT.two rfl e4 e5 ⟨by rw [un_if op s true hb]; rfl, X2⟩
  | false =>
    refine HW.no (e46.trans (congrArg Value.bool hb)) ?_
    refine HW.skip ?_
    -- region 11
    repeat refine HW.seq ?_
    refine HW.region ?_
    refine HL.still (Runs.move f6) ?_
    intro u47 e47
    refine HL.still (Runs.assign e47) ?_
    intro u4 e4
    refine HL.still (Runs.assign rfl) ?_
    intro u5 e5
    refine HL.nil ?_
    refine HW.ret ?_
    exact RT.two rfl e4 e5 ⟨by rw [un_if op s false hb]; rfl, X2⟩
theorem runmark_ch (h : Heap) (op : Int) (s : Str) (hs : s.length ≤ 4500) : CH Tryd.prog 20 #[I64 op, S8 s] h fun v h' => v = .tuple #[S8 (unmarkO op s).1, .bool (unmarkO op s).2] ∧ Ext h h' := by
  refine CH.of_body Tryd.func20 rfl rfl rfl ?_
  intro f hf
  have p0 : f 0 = I64 op := by rw [hf]; exact fr0_at rfl
  have p1 : f 1 = S8 s := by rw [hf]; exact fr0_at rfl
  have hpl := parent_le s
  have hll := last_len s
  have hul := unmarkS_le op s
  have hpos := List.length_pos_iff.2 (parts_ne s)
  have hpp := parts_le s
  -- region 0
  repeat refine HW.seq ?_
  refine HW.region ?_
  refine HL.still (Runs.assign rfl) ?_
  intro u4 e4
  refine HL.still (Runs.assign rfl) ?_
  intro u5 e5
  refine HL.nil ?_
  -- region 1
  repeat refine HW.seq ?_
  refine HW.region ?_
  refine HL.still (Runs.move p1) ?_
  intro u11 e11
  refine HL.still (Runs.assign e11) ?_
  intro u6 e6
  refine HL.nil ?_
  -- region 2
  repeat refine HW.seq ?_
  refine HW.region ?_
  refine HL.still (Runs.move p1) ?_
  intro u12 e12
  refine HL.one (HO.call Tryd.func26 bd26 nm26 (args1 e12) rfl ((rcut_ch h s (by omega)).mono ?_))
  rintro _ h1 ⟨a, c, rfl, hR, X1⟩
  intro u13 e13
  refine HL.still (Runs.assign e13) ?_
  intro u7 e7
  refine HL.nil ?_
  have hS : Sts h1 a (parts s) := hR.byt
  have hcap := hR.2
  have htl : ((parts s).take ((parts s).length - 1)).length = (parts s).length - 1 := by rw [List.length_take]; omega
  have hle := joinS_take_le (parts s) ((parts s).length - 1)
  rw [join_parts] at hle
  rcases hR.blk with rfl | ⟨g, rfl, _, _⟩
  · exfalso
    rcases hS with q | ⟨sb, so, q, _⟩
    · exact parts_ne s q
    · cases q
  obtain ⟨sb, so, ha, hc⟩ := hS.at (show (parts s).length - 1 < (parts s).length by omega)
  have hcell : cellH h1 g ((parts s).length - 1) = some (S8 (lastS (parts s))) := by
    cases ha
    rw [Nat.zero_add] at hc
    exact hc
  clear ha hc
  have hsum : unmarkS op s = if op = 2 then belowO s opq else if op = 1 then belowO (parentO s) (wh ++ lastS (parts s)) else s := by
    unfold unmarkS
    by_cases q : op = 1
    · rw [if_pos q, if_neg (by omega), if_pos q]
    · rw [if_neg q]
      by_cases r : op = 2
      · rw [if_pos r, if_pos r]
      · rw [if_neg r, if_neg r, if_neg q]
  obtain ⟨t1, ht1⟩ : ∃ t : Str, t = if op = 1 then belowO (parentO s) (wh ++ lastS (parts s)) else s := ⟨_, rfl⟩
  rw [← ht1] at hsum
  -- region 3
  repeat refine HW.seq ?_
  refine HW.region ?_
  refine HL.still (Runs.move p0) ?_
  intro u14 e14
  refine HL.still (Runs.eql e14 rfl (t := op == 1) rfl) ?_
  intro u15 e15
  refine HL.nil ?_
  refine HW.mono (N := fun f' g => Ext h g ∧ f' 0 = I64 op ∧ f' 1 = S8 s ∧ f' 6 = S8 t1) ?_ ?_ (fun _ _ _ h => h) (fun _ _ h => h)
  · by_cases hop : op = 1
    · have q : (op == 1) = true := beq_iff_eq.2 hop
      rw [q] at e15
      refine HW.yes e15 ?_
      -- region 4
      repeat refine HW.seq ?_
      refine HW.grow #[0, 0, 2, 6, 15, 31, 0, 0, 128, 384, 960, 1984, 4032, 8191, 16383] (Mk h1.size) mixed (by kernel_rfl) (Mk.refl _) Mk.trans ?_
      refine HM.still (Mk.refl _) (fun f h K => Runs.move ((K.keep (by kernel_rfl)).trans e7)) ?_
      refine HM.still (Mk.refl _) (fun f h K => Runs.move ((K.keep (by kernel_rfl)).trans e7)) ?_
      refine HM.still (Mk.refl _) (fun f h K => Runs.lenSl rfl Tryd.underlying33 (K.at 1 17 rfl rfl)) ?_
      refine HM.still (Mk.refl _) (fun f h K => Runs.sub (K.at 2 18 rfl rfl) rfl (c := (((parts s).length - 1 : Nat) : Int)) (by rw [i64w (by omega)]; omega)) ?_
      refine HM.still (Mk.refl _) (fun f h K => Runs.sliceSl Tryd.underlying33 sz9 (K.at 0 16 rfl rfl) (lo := 0) (hi := (parts s).length - 1) rfl ⟨_, K.at 3 19 rfl rfl⟩ (Nat.zero_le _) (by omega) (show _ = some (⟨g, 0, none⟩ : Addr) by rw [if_neg (by omega)]; simp [addr_add])) ?_
      refine HM.one (fun x _ => x = _) (fun _ _ _ _ e => e) (fun f h K => HO.call Tryd.func27 bd27 nm27 (args1 (K.at 4 20 rfl rfl)) rfl (((rjoin_ch h ((parts s).take ((parts s).length - 1)) _ _ _ htl.symm ((hS.mk K.grown).take _) (by omega) (by omega)).same).mono fun _ _ q => ⟨Mk.of_ext q.2 K.grown.size, q.1⟩)) ?_
      refine HM.still (Mk.refl _) (fun f h K => Runs.move ((K.keep (by kernel_rfl)).trans e7)) ?_
      refine HM.still (Mk.refl _) (fun f h K => Runs.move ((K.keep (by kernel_rfl)).trans e7)) ?_
      refine HM.still (Mk.refl _) (fun f h K => Runs.lenSl rfl Tryd.underlying33 (K.at 7 23 rfl rfl)) ?_
      refine HM.still (Mk.refl _) (fun f h K => Runs.sub (K.at 8 24 rfl rfl) rfl (c := (((parts s).length - 1 : Nat) : Int)) (by rw [i64w (by omega)]; omega)) ?_
      refine HM.still (Mk.refl _) (fun f h K => Runs.ixSl (o' := (parts s).length - 1) Tryd.underlying33 sz9 (K.at 6 22 rfl rfl) (K.at 9 25 rfl rfl) (by omega) (by omega) (by omega)) ?_
      refine HM.still (Mk.refl _) (fun f h K => Runs.load Tryd.underlying9 rfl (K.at 10 26 rfl rfl) (K.grown.cell hcell)) ?_
      refine HM.still (Mk.refl _) (fun f h K => Runs.addS rfl (K.at 11 27 rfl rfl) (xs := wh) (by have : wh.length = 4 := rfl; omega)) ?_
      refine HM.one (fun x _ => x = _) (fun _ _ _ _ e => e) (fun f h K => HO.call Tryd.func40 bd40 nm40 (args2 (K.at 5 21 rfl rfl) (K.at 12 28 rfl rfl)) rfl (((rbelow_ch h (parentO s) (wh ++ lastS (parts s)) (by omega) (by rw [List.length_append]; have : wh.length = 4 := rfl; omega)).same).mono fun _ _ q => ⟨Mk.of_ext q.2 K.grown.size, q.1⟩)) ?_
      refine HM.still (Mk.refl _) (fun f h K => Runs.assign (K.at 13 29 rfl rfl)) ?_
      intro f' g' hR2 V O
      have g6 : f' 6 = S8 (belowO (parentO s) (wh ++ lastS (parts s))) := last_at V 14 6 rfl
      exact ⟨X1.trans (hR2.bel.mono X1.size), (last_keep O (by kernel_rfl)).trans p0, (last_keep O (by kernel_rfl)).trans p1, by rw [ht1, if_pos hop]; exact g6⟩
    · have q : (op == 1) = false := beq_eq_false_iff_ne.2 hop
      rw [q] at e15
      refine HW.no e15 ?_
      refine HW.skip ?_
      exact ⟨X1, p0, p1, by rw [ht1, if_neg hop]; exact e6⟩
  clear e4 e5 e6 e7 e15 p0 p1
  rintro f g2 ⟨XG, f0, f1, f6⟩
  -- region 5
  repeat refine HW.seq ?_
  refine HW.region ?_
  refine HL.still (Runs.move f0) ?_
  intro u30 e30
  refine HL.still (Runs.eql e30 rfl (t := op == 2) rfl) ?_
  intro u31 e31
  refine HL.nil ?_
  refine HW.mono (N := fun f' g => Ext h g ∧ f' 0 = I64 op ∧ f' 1 = S8 s ∧ f' 6 = S8 (unmarkS op s)) ?_ ?_ (fun _ _ _ h => h) (fun _ _ h => h)
  · by_cases h1 : op = 2
    · have q : (op == 2) = true := beq_iff_eq.2 h1
      rw [q] at e31
      refine HW.yes e31 ?_
      -- region 6
      repeat refine HW.seq ?_
      refine HW.region ?_
      refine HL.still (Runs.move f1) ?_
      intro u32 e32
      refine HL.one (HO.call Tryd.func40 bd40 nm40 (args2 e32 rfl) rfl ((rbelow_ch g2 s opq (by omega) (by decide)).mono ?_))
      rintro _ h3 ⟨rfl, hh3⟩
      intro u33 e33
      refine HL.still (Runs.assign e33) ?_
      intro u6 e6
      refine HL.nil ?_
      exact ⟨by rw [hh3]; exact XG, f0, f1, by rw [hsum, if_pos h1]; exact e6⟩
    · have q : (op == 2) = false := beq_eq_false_iff_ne.2 h1
      rw [q] at e31
      refine HW.no e31 ?_
      refine HW.skip ?_
      exact ⟨XG, f0, f1, by rw [hsum, if_neg h1]; exact f6⟩
  clear e31 f0 f1 f6
  rintro f g3 ⟨XH, f0, f1, f6⟩
  -- region 7
  repeat refine HW.seq ?_
  refine HW.region ?_
  refine HL.still (Runs.move f6) ?_
  intro u35 e35
  refine HL.one (HO.call Tryd.func18 bd18 nm18 (args1 e35) rfl ((rmark_ch g3 (unmarkS op s) (by omega)).mono ?_))
  rintro _ h2 ⟨rfl, X2⟩
  intro u36 e36
  refine HL.still (Runs.move e36) ?_
  intro u34 e34
  refine HL.still (Runs.extr e34 rfl) ?_
  intro u37 e37
  refine HL.still (Runs.extr e34 rfl) ?_
  intro u38 e38
  refine HL.still (Runs.extr e34 rfl) ?_
  intro u39 e39
  refine HL.still (Runs.assign e37) ?_
  intro u8 e8
  refine HL.still (Runs.assign e38) ?_
  intro u9 e9
  refine HL.still (Runs.assign e39) ?_
  intro u10 e10
  refine HL.nil ?_
  have XK : Ext h h2 := XH.ext X2 (Nat.le_refl _)
  -- region 8
  repeat refine HW.seq ?_
  refine HW.region ?_
  refine HL.still (Runs.move e10) ?_
  intro u40 e40
  refine HL.still (Runs.notb e40 (t := (markO (unmarkS op s)).2.2) (u := !(markO (unmarkS op s)).2.2) rfl) ?_
  intro u41 e41
  refine HL.still (Runs.move e41) ?_
  intro u42 e42
  refine HL.anyG rfl rfl e42 (fun hg => Runs.move e8) ?_
  intro u43 e43
  refine HL.anyG rfl rfl e42 (fun hg => Runs.move f0) ?_
  intro u44 e44
  refine HL.anyG rfl rfl e42 (fun hg => Runs.neq (e43.trans (if_pos hg)) (e44.trans (if_pos hg)) (a := (markO (unmarkS op s)).1) (b := op) rfl) ?_
  intro u45 e45
  refine HL.still (Runs.pick e42 (or_pick e45)) ?_
  intro u46 e46
  refine HL.still (Runs.move e46) ?_
  intro u47 e47
  refine HL.anyG rfl rfl e47 (fun hg => Runs.move e9) ?_
  intro u48 e48
  refine HL.anyG rfl rfl e47 (fun hg => Runs.move f1) ?_
  intro u49 e49
  refine HL.anyG rfl rfl e47 (fun hg => Runs.neqS (e48.trans (if_pos hg)) (e49.trans (if_pos hg)) (xs := (markO (unmarkS op s)).2.1) (ys := s) rfl) ?_
  intro u50 e50
  refine HL.still (Runs.pick e47 (or_pick e50)) ?_
  intro u51 e51
  refine HL.nil ?_
  cases hb : ((!(markO (unmarkS op s)).2.2 || (markO (unmarkS op s)).1 != op) || !((markO (unmarkS op s)).2.1 == s)) with
  | true =>
    refine HW.yes (e51.trans (congrArg Value.bool hb)) ?_
    -- region 9
    repeat refine HW.seq ?_
    refine HW.region ?_
    refine HL.still (Runs.assign rfl) ?_
    intro u4 e4
    refine HL.still (Runs.assign rfl) ?_
    intro u5 e5
    refine HL.nil ?_
    refine HW.ret ?_
    exact RT.two rfl e4 e5 ⟨by rw [un_if op s true hb]; rfl, XK⟩
  | false =>
    refine HW.no (e51.trans (congrArg Value.bool hb)) ?_
    refine HW.skip ?_
    -- region 10
    repeat refine HW.seq ?_
    refine HW.region ?_
    refine HL.still (Runs.move f6) ?_
    intro u52 e52
    refine HL.still (Runs.assign e52) ?_
    intro u4 e4
    refine HL.still (Runs.assign rfl) ?_
    intro u5 e5
    refine HL.nil ?_
    refine HW.ret ?_
    exact RT.two rfl e4 e5 ⟨by rw [un_if op s false hb]; rfl, XK⟩
end Go.Proofs.YtfnippeemboljaaDoor
