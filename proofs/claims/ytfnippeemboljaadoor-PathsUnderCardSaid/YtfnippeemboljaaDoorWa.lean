/- strings.Cut, strings.Split at a slash. -/
import Derived.Test.YtfnippeemboljaaDoorTab
namespace Go.Proofs.YtfnippeemboljaaDoor
set_option linter.unnecessarySimpa false
set_option linter.unusedSimpArgs false
set_option linter.unusedVariables false
open Go.RowKit
theorem idx47 (s : Str) : (Go.Lib.indexByte s 47 = -1 ∧ (47 : UInt8) ∉ s) ∨ ∃ u v, s = u ++ 47 :: v ∧ (47 : UInt8) ∉ u ∧ Go.Lib.indexByte s 47 = (u.length : Int) := by
  by_cases h : Go.Lib.indexByte s 47 = -1
  · left
    refine ⟨h, fun hm => ?_⟩
    obtain ⟨j, hj, e⟩ := List.mem_iff_getElem.1 hm
    exact Go.Lib.indexByte_none h j (by rw [List.getElem?_eq_getElem hj, e])
  · right
    have hge := Go.Lib.indexByte_ge s 47
    obtain ⟨o, ho⟩ : ∃ o : Nat, Go.Lib.indexByte s 47 = (o : Int) := ⟨(Go.Lib.indexByte s 47).toNat, by omega⟩
    obtain ⟨h1, h2⟩ := Go.Lib.indexByte_some ho
    have hlt := (List.getElem?_eq_some_iff.1 h1).1
    refine ⟨s.take o, s.drop (o + 1), ?_, fun hm => ?_, by rw [ho, List.length_take]; omega⟩
    · rw [List.getElem?_eq_getElem hlt] at h1
      conv => lhs; rw [← List.take_append_drop o s, List.drop_eq_getElem_cons hlt, Option.some.inj h1]
    · obtain ⟨j, hj, e⟩ := List.mem_iff_getElem.1 hm
      rw [List.length_take] at hj
      rw [List.getElem_take] at e
      exact h2 j (by omega) (by rw [List.getElem?_eq_getElem (by omega), e])
/-- strings.Cut(s, "/"). -/
def cutO (s : Str) : Str × Str × Bool := if 0 ≤ Go.Lib.indexByte s 47 then (s.take (Go.Lib.indexByte s 47).toNat, s.drop ((Go.Lib.indexByte s 47).toNat + 1), true) else (s, [], false)
theorem cutO_no {s : Str} (h : (47 : UInt8) ∉ s) : cutO s = (s, [], false) := by
  rcases idx47 s with ⟨h1, _⟩ | ⟨u, v, rfl, _, _⟩
  · unfold cutO
    rw [h1, if_neg (by decide)]
  · exact absurd (by simp) h
theorem cutO_yes {u v : Str} (h : (47 : UInt8) ∉ u) : cutO (u ++ 47 :: v) = (u, v, true) := by
  have hu : Go.Lib.indexByte (u ++ 47 :: v) 47 = (u.length : Int) := by
    induction u with
    | nil => rfl
    | cons c u ih =>
      have hc : c ≠ 47 := fun e => h (by rw [e]; exact List.mem_cons_self ..)
      have := ih (fun q => h (List.mem_cons_of_mem _ q))
      rw [List.cons_append, Go.Lib.indexByte, if_neg (by simpa using hc), this, if_neg (by simp)]
      simp
  unfold cutO
  rw [hu, if_pos (by omega), Int.toNat_natCast, List.take_left' rfl]
  congr 2
  rw [← List.drop_drop, List.drop_left' rfl]
  rfl
theorem cut0_ch (h : Heap) (s : Str) (hs : s.length < 4611686018427387904) : CH Tryd.prog 49 #[S8 s, S8 [47]] h fun v h' => v = .tuple #[S8 (cutO s).1, S8 (cutO s).2.1, .bool (cutO s).2.2] ∧ h' = h := by
  refine CH.of_body Tryd.func49 rfl rfl rfl ?_
  intro f hf
  have p0 : f 0 = S8 s := by rw [hf]; exact fr0_at rfl
  have p1 : f 1 = S8 [47] := by rw [hf]; exact fr0_at rfl
  -- region 0
  repeat refine HW.seq ?_
  refine HW.region ?_
  refine HL.still (Runs.assign rfl) ?_
  intro u4 e4
  refine HL.still (Runs.assign rfl) ?_
  intro u5 e5
  refine HL.still (Runs.assign rfl) ?_
  intro u6 e6
  refine HL.nil ?_
  -- region 1
  repeat refine HW.seq ?_
  refine HW.region ?_
  refine HL.still (Runs.move p0) ?_
  intro u8 e8
  refine HL.still (Runs.move p1) ?_
  intro u9 e9
  refine HL.one (HO.call Tryd.func62 bd62 nm62 (args2 e8 e9) rfl ((index0_ch h s 47).mono ?_))
  rintro _ h1 ⟨rfl, hh1⟩
  intro u10 e10
  refine HL.still (Runs.assign e10) ?_
  intro u7 e7
  refine HL.nil ?_
  rcases idx47 s with ⟨hi, hno⟩ | ⟨u, v, hsv, hu, hi⟩
  · rw [hi] at e7
    -- region 2
    repeat refine HW.seq ?_
    refine HW.region ?_
    refine HL.still (Runs.move e7) ?_
    intro u11 e11
    refine HL.still (Runs.geq e11 rfl (t := false) rfl) ?_
    intro u12 e12
    refine HL.nil ?_
    repeat refine HW.seq ?_
    refine HW.no ?_ ?_
    exact e12
    refine HW.skip ?_
    -- region 4
    repeat refine HW.seq ?_
    refine HW.region ?_
    refine HL.still (Runs.move p0) ?_
    intro u22 e22
    refine HL.still (Runs.assign e22) ?_
    intro u4 e4
    refine HL.still (Runs.assign rfl) ?_
    intro u5 e5
    refine HL.still (Runs.assign rfl) ?_
    intro u6 e6
    refine HL.nil ?_
    refine HW.ret ?_
    exact RT.three rfl e4 e5 e6 ⟨by rw [cutO_no hno]; rfl, hh1⟩
  · rw [hi] at e7
    have hl : s.length = u.length + 1 + v.length := by rw [hsv]; simp; omega
    -- region 2
    repeat refine HW.seq ?_
    refine HW.region ?_
    refine HL.still (Runs.move e7) ?_
    intro u11 e11
    refine HL.still (Runs.geq e11 rfl (t := true) (decide_eq_true (by omega))) ?_
    intro u12 e12
    refine HL.nil ?_
    repeat refine HW.seq ?_
    refine HW.yes ?_ ?_
    exact e12
    -- region 3
    repeat refine HW.seq ?_
    refine HW.draw mixed (by kernel_rfl) ?_
    refine HS.still (Runs.move p0) ?_
    intro u13 e13
    refine HS.still (Runs.move e7) ?_
    intro u14 e14
    refine HS.still (Runs.sliceS Tryd.underlying9 e13 (lo := 0) (hi := u.length) rfl ⟨_, e14⟩ (Nat.zero_le _) (by omega)) ?_
    intro u15 e15
    refine HS.still (Runs.move p0) ?_
    intro u16 e16
    refine HS.still (Runs.move e7) ?_
    intro u17 e17
    refine HS.still (Runs.move p1) ?_
    intro u18 e18
    refine HS.still (Runs.lenS rfl Tryd.underlying9 e18) ?_
    intro u19 e19
    refine HS.still (Runs.add e17 e19 (c := ((u.length + 1 : Nat) : Int)) (by rw [i64w (by simp; omega)]; simp)) ?_
    intro u20 e20
    refine HS.still (Runs.sliceS Tryd.underlying9 e16 (lo := u.length + 1) (hi := s.length) ⟨_, e20⟩ rfl (by omega) (Nat.le_refl _)) ?_
    intro u21 e21
    refine HS.still (Runs.assign e15) ?_
    intro u4 e4
    refine HS.still (Runs.assign e21) ?_
    intro u5 e5
    refine HS.still (Runs.assign rfl) ?_
    intro u6 e6
    refine HS.nil ?_
    refine HW.ret ?_
    refine RT.three rfl e4 e5 e6 ⟨?_, hh1⟩
    rw [hsv, cutO_yes hu]
    have q1 : List.drop 0 (List.take u.length (u ++ 47 :: v)) = u := by rw [List.drop_zero, List.take_left' rfl]
    have q2 : List.drop (u.length + 1) (List.take (u ++ 47 :: v).length (u ++ 47 :: v)) = v := by
      rw [List.take_of_length_le (Nat.le_refl _), ← List.drop_drop, List.drop_left' rfl]
      rfl
    rw [q1, q2]
theorem cut_ch (h : Heap) (s : Str) (hs : s.length < 4611686018427387904) : CH Tryd.prog 29 #[S8 s, S8 [47]] h fun v h' => v = .tuple #[S8 (cutO s).1, S8 (cutO s).2.1, .bool (cutO s).2.2] ∧ h' = h := by
  refine CH.of_body Tryd.func29 rfl rfl rfl ?_
  intro f hf
  have p0 : f 0 = S8 s := by rw [hf]; exact fr0_at rfl
  have p1 : f 1 = S8 [47] := by rw [hf]; exact fr0_at rfl
  -- region 0
  repeat refine HW.seq ?_
  refine HW.region ?_
  refine HL.still (Runs.assign rfl) ?_
  intro u4 e4
  refine HL.still (Runs.assign rfl) ?_
  intro u5 e5
  refine HL.still (Runs.assign rfl) ?_
  intro u6 e6
  refine HL.nil ?_
  -- region 1
  repeat refine HW.seq ?_
  refine HW.region ?_
  refine HL.still (Runs.move p0) ?_
  intro u7 e7
  refine HL.still (Runs.move p1) ?_
  intro u8 e8
  refine HL.one (HO.call Tryd.func49 bd49 nm49 (args2 e7 e8) rfl ((cut0_ch h s hs).mono ?_))
  rintro _ h1 ⟨rfl, hh1⟩
  intro u9 e9
  refine HL.still (Runs.extr e9 rfl) ?_
  intro u10 e10
  refine HL.still (Runs.extr e9 rfl) ?_
  intro u11 e11
  refine HL.still (Runs.extr e9 rfl) ?_
  intro u12 e12
  refine HL.still (Runs.assign e10) ?_
  intro u4 e4
  refine HL.still (Runs.assign e11) ?_
  intro u5 e5
  refine HL.still (Runs.assign e12) ?_
  intro u6 e6
  refine HL.nil ?_
  refine HW.ret ?_
  exact RT.three rfl e4 e5 e6 ⟨rfl, hh1⟩
/-- What a split gives: a new block of the parts. -/
def SplitV (h : Heap) (l : List Str) (v : Value) (h' : Heap) : Prop := v = .slice (some ⟨h.size, 0, none⟩) l.length l.length ∧ h'[h.size]? = some (.cells (l.map S8).toArray 9 (0, 0)) ∧ h'.size = h.size + 1 ∧ Ext h h'
set_option maxRecDepth 10000 in
theorem gensplit_ch (h : Heap) (s : Str) (hs : s.length ≤ 10000) : CH Tryd.prog 42 #[S8 s, S8 [47], .int .i64 0, .int .i64 (-1)] h (SplitV h (parts s)) := by
  refine CH.of_body Tryd.func42 rfl rfl rfl ?_
  intro f hf
  have p0 : f 0 = S8 s := by rw [hf]; exact fr0_at rfl
  have p1 : f 1 = S8 [47] := by rw [hf]; exact fr0_at rfl
  have p2 : f 2 = .int .i64 0 := by rw [hf]; exact fr0_at rfl
  have p3 : f 3 = .int .i64 (-1) := by rw [hf]; exact fr0_at rfl
  have hcl : s.count 47 ≤ s.length := List.count_le_length
  have hpl := parts_len s
  obtain ⟨m, hm⟩ : ∃ m, m = s.count 47 := ⟨_, rfl⟩
  rw [← hm] at hcl hpl
  -- region 0
  repeat refine HW.seq ?_
  refine HW.region ?_
  refine HL.still (Runs.assign rfl) ?_
  intro u8 e8
  refine HL.nil ?_
  -- region 1
  repeat refine HW.seq ?_
  refine HW.region ?_
  refine HL.still (Runs.move p3) ?_
  intro u12 e12
  refine HL.still (Runs.eql e12 rfl (t := false) rfl) ?_
  intro u13 e13
  refine HL.nil ?_
  repeat refine HW.seq ?_
  refine HW.no ?_ ?_
  exact e13
  refine HW.skip ?_
  -- region 3
  repeat refine HW.seq ?_
  refine HW.region ?_
  refine HL.still (Runs.move p1) ?_
  intro u14 e14
  refine HL.still (Runs.eqS e14 rfl (ys := []) (t := false) rfl) ?_
  intro u15 e15
  refine HL.nil ?_
  repeat refine HW.seq ?_
  refine HW.no ?_ ?_
  exact e15
  refine HW.skip ?_
  -- region 5
  repeat refine HW.seq ?_
  refine HW.region ?_
  refine HL.still (Runs.move p3) ?_
  intro u19 e19
  refine HL.still (Runs.lss e19 rfl (t := true) rfl) ?_
  intro u20 e20
  refine HL.nil ?_
  repeat refine HW.seq ?_
  refine HW.yes ?_ ?_
  exact e20
  -- region 6
  repeat refine HW.seq ?_
  refine HW.region ?_
  refine HL.still (Runs.move p0) ?_
  intro u21 e21
  refine HL.still (Runs.move p1) ?_
  intro u22 e22
  refine HL.one (HO.call Tryd.func32 bd32 nm32 (args2 e21 e22) rfl ((count1_ch h s 47).mono ?_))
  rintro _ h1 ⟨rfl, hh1⟩
  intro u23 e23
  refine HL.still (Runs.add e23 rfl (c := ((m + 1 : Nat) : Int)) (by rw [← hm, i64w (by omega)]; omega)) ?_
  intro u24 e24
  refine HL.still (Runs.assign e24) ?_
  intro u3 e3
  refine HL.nil ?_
  -- region 7
  repeat refine HW.seq ?_
  refine HW.region ?_
  refine HL.still (Runs.move e3) ?_
  intro u25 e25
  refine HL.still (Runs.move p0) ?_
  intro u26 e26
  refine HL.still (Runs.lenS rfl Tryd.underlying9 e26) ?_
  intro u27 e27
  refine HL.still (Runs.add e27 rfl (i64w (by omega))) ?_
  intro u28 e28
  refine HL.still (Runs.minI e25 e28 (c := ((m + 1 : Nat) : Int)) (by rw [if_neg (by omega)])) ?_
  intro u29 e29
  refine HL.still (Runs.assign e29) ?_
  intro u3 e3
  refine HL.nil ?_
  -- region 8
  repeat refine HW.seq ?_
  refine HW.region ?_
  refine HL.still (Runs.move e3) ?_
  intro u30 e30
  refine HL.one (HO.makeR Tryd.underlying33 in9 rfl e30 e30 (n := m + 1) (by omega) (by omega) ?_)
  intro h2 w2
  intro u31 e31
  refine HL.still (Runs.assign e31) ?_
  intro u9 e9
  refine HL.nil ?_
  -- region 9
  repeat refine HW.seq ?_
  refine HW.region ?_
  refine HL.still (Runs.move e3) ?_
  intro u32 e32
  refine HL.still (Runs.sub e32 rfl (c := ((m : Nat) : Int)) (by rw [i64w (by omega)]; omega)) ?_
  intro u33 e33
  refine HL.still (Runs.assign e33) ?_
  intro u3 e3
  refine HL.nil ?_
  -- region 10
  repeat refine HW.seq ?_
  refine HW.region ?_
  refine HL.still (Runs.assign rfl) ?_
  intro u10 e10
  refine HL.nil ?_
  have z2 := w2.size
  have hX2 : Ext h1 h2 := w2.ext
  rw [hh1] at hX2 z2
  have hb2 : h2[h.size]? = some (.cells (List.replicate (m + 1) (S8 [])).toArray 9 (0, 0)) := by rw [← hh1]; exact w2.new
  have e9' : u9 = .slice (some ⟨h.size, 0, none⟩) (m + 1) (m + 1) := by rw [← hh1]; exact e9
  repeat refine HW.seq ?_
  refine HW.block ?_
  refine HW.loop (fun c f u => ∃ (i : Nat) (t : Str) (D : List Str) (cur : List Value), i ≤ m ∧ c = m - i ∧ f 10 = I64 i ∧ f 3 = I64 m ∧ f 0 = S8 t ∧ f 1 = S8 [47] ∧ f 2 = .int .i64 0 ∧ f 9 = .slice (some ⟨h.size, 0, none⟩) (m + 1) (m + 1) ∧ parts s = D ++ parts t ∧ D.length = i ∧ cur.length = m + 1 ∧ cur.take i = D.map S8 ∧ t.length ≤ s.length ∧ u[h.size]? = some (.cells cur.toArray 9 (0, 0)) ∧ u.size = h.size + 1 ∧ Ext h u) m
    ⟨0, s, [], List.replicate (m + 1) (S8 []), Nat.zero_le _, rfl, e10, e3, p0, p1, p2, e9', rfl, rfl, List.length_replicate, rfl, Nat.le_refl _, hb2, z2, hX2⟩ ?_
  clear e3 e8 e9 e9' e10 hb2
  rintro c f u ⟨i, t, D, cur, hi, hc, f10, f3, f0, f1, f2, f9, hpt, hD, hcur, htk, htl, hb, hus, hX⟩
  have hlen : D.length + (parts t).length = m + 1 := by rw [← List.length_append, ← hpt, hpl]
  by_cases hlt : i < m
  · rcases idx47 t with ⟨hix, hno⟩ | ⟨x, y, hxy, hx, hix⟩
    · exfalso
      rw [parts_one t hno] at hlen
      simp at hlen
      omega
    · have htl' : t.length = x.length + 1 + y.length := by rw [hxy]; simp; omega
      -- region 11
      repeat refine HW.seq ?_
      refine HW.region ?_
      refine HL.still (Runs.move f10) ?_
      intro u34 e34
      refine HL.still (Runs.move f3) ?_
      intro u35 e35
      refine HL.still (Runs.lss e34 e35 rfl) ?_
      intro u36 e36
      refine HL.nil ?_
      repeat refine HW.seq ?_
      refine HW.yes ?_ ?_
      exact e36.trans (congrArg Value.bool (decide_eq_true (by omega)))
      refine HW.skip ?_
      repeat refine HW.seq ?_
      refine HW.block ?_
      -- region 12
      repeat refine HW.seq ?_
      refine HW.region ?_
      refine HL.still (Runs.move f0) ?_
      intro u37 e37
      refine HL.still (Runs.move f1) ?_
      intro u38 e38
      refine HL.one (HO.call Tryd.func54 bd54 nm54 (args2 e37 e38) rfl ((index1_ch u t 47).mono ?_))
      rintro _ u1 ⟨rfl, hu1⟩
      intro u39 e39
      refine HL.still (Runs.assign e39) ?_
      intro u11 e11
      refine HL.nil ?_
      rw [hix] at e11
      rw [hu1]
      clear hu1
      -- region 13
      repeat refine HW.seq ?_
      refine HW.region ?_
      refine HL.still (Runs.move e11) ?_
      intro u40 e40
      refine HL.still (Runs.lss e40 rfl (t := false) (decide_eq_false (by omega))) ?_
      intro u41 e41
      refine HL.nil ?_
      repeat refine HW.seq ?_
      refine HW.no ?_ ?_
      exact e41
      refine HW.skip ?_
      -- region 14
      repeat refine HW.seq ?_
      refine HW.region ?_
      refine HL.still (Runs.move f9) ?_
      intro u42 e42
      refine HL.still (Runs.move f10) ?_
      intro u43 e43
      refine HL.still (Runs.move f0) ?_
      intro u44 e44
      refine HL.still (Runs.move e11) ?_
      intro u45 e45
      refine HL.still (Runs.move f2) ?_
      intro u46 e46
      refine HL.still (Runs.add e45 e46 (i64w (by omega))) ?_
      intro u47 e47
      refine HL.still (Runs.sliceS Tryd.underlying9 e44 (lo := 0) (hi := x.length) rfl ⟨_, e47.trans (congrArg (Value.int .i64) (by omega))⟩ (Nat.zero_le _) (by omega)) ?_
      intro u48 e48
      refine HL.still (Runs.ixSl (o' := i) Tryd.underlying33 sz9 e42 e43 (by omega) (by omega) (by omega)) ?_
      intro u49 e49
      refine HL.zero (HO.store (s := 1) sz9 e49 e48 rfl hb (by omega) rfl ?_)
      intro h3 w3
      refine HL.nil ?_
      have q1 : List.drop 0 (List.take x.length t) = x := by rw [hxy, List.drop_zero, List.take_left' rfl]
      have hb3 := w3.new
      rw [q1] at hb3
      -- region 15
      repeat refine HW.seq ?_
      refine HW.region ?_
      refine HL.still (Runs.move f0) ?_
      intro u50 e50
      refine HL.still (Runs.move e11) ?_
      intro u51 e51
      refine HL.still (Runs.move f1) ?_
      intro u52 e52
      refine HL.still (Runs.lenS rfl Tryd.underlying9 e52) ?_
      intro u53 e53
      refine HL.still (Runs.add e51 e53 (c := ((x.length + 1 : Nat) : Int)) (by rw [i64w (by simp; omega)]; simp)) ?_
      intro u54 e54
      refine HL.still (Runs.sliceS Tryd.underlying9 e50 (lo := x.length + 1) (hi := t.length) ⟨_, e54⟩ rfl (by omega) (Nat.le_refl _)) ?_
      intro u55 e55
      refine HL.still (Runs.assign e55) ?_
      intro u0 e0
      refine HL.nil ?_
      have q2 : List.drop (x.length + 1) (List.take t.length t) = y := by
        rw [List.take_of_length_le (Nat.le_refl _), hxy, ← List.drop_drop, List.drop_left' rfl]
        rfl
      rw [q2] at e0
      -- region 16
      repeat refine HW.seq ?_
      refine HW.region ?_
      refine HL.still (Runs.move f10) ?_
      intro u56 e56
      refine HL.still (Runs.add e56 rfl (i64w (by omega))) ?_
      intro u57 e57
      refine HL.still (Runs.assign e57) ?_
      intro u10 e10
      refine HL.nil ?_
      refine ⟨m - (i + 1), by omega, i + 1, y, D ++ [x], cur.set i (S8 x), by omega, rfl, e10, f3, e0, f1, f2, f9, ?_, by rw [List.length_append, hD]; rfl, by rw [List.length_set, hcur], ?_, by omega, hb3, by rw [w3.size]; exact hus, hX.wr w3 (Nat.le_refl _)⟩
      · rw [hpt, hxy, parts_app x y hx, List.append_assoc]
        rfl
      · rw [List.map_append, ← htk, List.take_succ_eq_append_getElem (by rw [List.length_set]; omega), List.take_set_of_le (Nat.le_refl _)]
        simp
  · have him : i = m := by omega
    subst him
    have hone : parts t = [t] := by
      rcases idx47 t with ⟨_, hno⟩ | ⟨x, y, hxy, hx, _⟩
      · exact parts_one t hno
      · exfalso
        rw [hxy, parts_app x y hx, List.length_cons] at hlen
        have := List.length_pos_iff.2 (parts_ne y)
        omega
    -- region 11
    repeat refine HW.seq ?_
    refine HW.region ?_
    refine HL.still (Runs.move f10) ?_
    intro u34 e34
    refine HL.still (Runs.move f3) ?_
    intro u35 e35
    refine HL.still (Runs.lss e34 e35 rfl) ?_
    intro u36 e36
    refine HL.nil ?_
    repeat refine HW.seq ?_
    refine HW.no ?_ ?_
    exact e36.trans (congrArg Value.bool (decide_eq_false (by omega)))
    refine HW.exitHere ?_
    -- region 17
    repeat refine HW.seq ?_
    refine HW.region ?_
    refine HL.still (Runs.move f9) ?_
    intro u58 e58
    refine HL.still (Runs.move f10) ?_
    intro u59 e59
    refine HL.still (Runs.move f0) ?_
    intro u60 e60
    refine HL.still (Runs.ixSl (o' := i) Tryd.underlying33 sz9 e58 e59 (by omega) (by omega) (by omega)) ?_
    intro u61 e61
    refine HL.zero (HO.store (s := 1) sz9 e61 e60 rfl hb (by omega) rfl ?_)
    intro h3 w3
    refine HL.nil ?_
    have hb3 := w3.new
    have hall : cur.set i (S8 t) = (parts s).map S8 := by
      rw [hpt, hone, List.map_append, ← htk]
      have h1 := List.take_append_drop (i + 1) (cur.set i (S8 t))
      rw [List.drop_of_length_le (by rw [List.length_set]; omega), List.append_nil] at h1
      rw [← h1, List.take_succ_eq_append_getElem (by rw [List.length_set]; omega), List.take_set_of_le (Nat.le_refl _)]
      simp
    rw [hall] at hb3
    -- region 18
    repeat refine HW.seq ?_
    refine HW.region ?_
    refine HL.still (Runs.move f9) ?_
    intro u62 e62
    refine HL.still (Runs.move f10) ?_
    intro u63 e63
    refine HL.still (Runs.add e63 rfl (i64w (by omega))) ?_
    intro u64 e64
    refine HL.still (Runs.sliceSl Tryd.underlying33 sz9 e62 (lo := 0) (hi := i + 1) rfl ⟨_, e64⟩ (Nat.zero_le _) (Nat.le_refl _) rfl) ?_
    intro u65 e65
    refine HL.still (Runs.assign e65) ?_
    intro u8 e8
    refine HL.nil ?_
    have e8' := e8.trans (show _ = Value.slice (some ⟨h.size, 0, none⟩) (i + 1) (i + 1) by rw [if_neg (by omega)]; simp [addr_add])
    refine HW.ret ?_
    exact RT.one rfl e8' ⟨by rw [hpl], hb3, by rw [w3.size]; exact hus, hX.wr w3 (Nat.le_refl _)⟩
theorem split_ch (h : Heap) (s : Str) (hs : s.length ≤ 10000) : CH Tryd.prog 22 #[S8 s, S8 [47]] h (SplitV h (parts s)) := by
  refine CH.of_body Tryd.func22 rfl rfl rfl ?_
  intro f hf
  have p0 : f 0 = S8 s := by rw [hf]; exact fr0_at rfl
  have p1 : f 1 = S8 [47] := by rw [hf]; exact fr0_at rfl
  -- region 0
  repeat refine HW.seq ?_
  refine HW.region ?_
  refine HL.still (Runs.assign rfl) ?_
  intro u4 e4
  refine HL.nil ?_
  -- region 1
  repeat refine HW.seq ?_
  refine HW.region ?_
  refine HL.still (Runs.move p0) ?_
  intro u5 e5
  refine HL.still (Runs.move p1) ?_
  intro u6 e6
  refine HL.one (HO.call Tryd.func42 bd42 nm42 (args4 e5 e6 rfl rfl) rfl ((gensplit_ch h s hs).mono ?_))
  rintro _ h1 ⟨rfl, q⟩
  intro u7 e7
  refine HL.still (Runs.assign e7) ?_
  intro u4 e4
  refine HL.nil ?_
  refine HW.ret ?_
  exact RT.one rfl e4 ⟨rfl, q⟩
end Go.Proofs.YtfnippeemboljaaDoor
