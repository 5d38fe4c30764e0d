/- onionskinlaw01.ShaTwo returns true. -/
import Derived.Test.YtbfmkjfpialihaaLd
namespace Go.Proofs.Ytbfmkjfpialihaa
set_option linter.unnecessarySimpa false
set_option linter.unusedSimpArgs false
set_option linter.unusedVariables false
open Go.RowKit
theorem cat_ge {l : List (Option Addr × Nat × List UInt8)} {i : Nat} (h : l.length ≤ i) : cat l (i + 1) = cat l i := by
  unfold cat
  rw [List.take_of_length_le h, List.take_of_length_le (by omega)]
/-- Two slices lie in blocks of their own. -/
def Apt (a b : Option Addr) : Prop := ∀ j, a = some ⟨j, 0, none⟩ → b ≠ some ⟨j, 0, none⟩
theorem Apt.comm {a b : Option Addr} (x : Apt a b) : Apt b a := fun j h k => x j k h
/-- The other slice stays. -/
theorem Bs.other {h h' : Heap} {base base' : Nat} {e : TypeId} {a b : Option Addr} {ca cb : Nat} {xs ys : List UInt8} (x : Bs h base e b cb ys) (g : GrA h h' a) (y : Bs h base' e a ca xs) (hne : Apt a b) : Bs h' base e b cb ys :=
  ⟨x.1.keep fun j hj => Gr.old g j (x.1.lt j hj).2 (fun q => by
    rcases y.blk with r | ⟨g0, r, _, _⟩
    · subst r; cases q
    · rcases x.blk with r' | ⟨g1, r', _, _⟩
      · subst r'; cases hj
      · subst r; subst r'; cases q; cases hj; exact hne _ rfl rfl), x.2⟩
theorem Apt.app {h : Heap} {base : Nat} {e : TypeId} {a a' b : Option Addr} {cb : Nat} {ys : List UInt8} (x : Apt a b) (y : Bs h base e b cb ys) (q : a' = a ∨ a' = some ⟨h.size, 0, none⟩ ∨ a' = none) : Apt a' b := by
  rcases q with rfl | rfl | rfl
  · exact x
  · intro j hj hb
    cases hj
    rcases y.blk with r | ⟨g1, r, _, r2⟩
    · rw [r] at hb; cases hb
    · rw [r] at hb; cases hb; omega
  · intro j hj; cases hj
/-- What both hashes and both rows hold. -/
structure TwoAt (h : Heap) (bx by' bd : Nat) (P X Q Y : List UInt8) (a1 : Option Addr) (c1 : Nat) (a2 : Option Addr) (c2 : Nat) (g : Heap) : Prop where
  p : Bs g bd 5 a1 c1 P
  q : Bs g bd 5 a2 c2 Q
  apt : Apt a1 a2
  x : HashAt g bx X
  y : HashAt g by' Y
  ext : Ext h g
  size : bd ≤ g.size
  lx : h.size ≤ bx
  xy : bx < by'
  yd : by' < bd
section
variable {h g g' : Heap} {bx by' bd : Nat} {P X Q Y Z : List UInt8} {a1 a2 a' : Option Addr} {c1 c2 c' : Nat}
theorem TwoAt.wrX (T : TwoAt h bx by' bd P X Q Y a1 c1 a2 c2 g) (z : HashAt g' bx Z) (E : ExB bx g g') : TwoAt h bx by' bd P Z Q Y a1 c1 a2 c2 g' :=
  have := T.xy
  have := T.yd
  ⟨T.p.exb E (by omega), T.q.exb E (by omega), T.apt, z, T.y.exb E (by omega), bel_of_exb T.ext E (Nat.le_refl _) T.lx, Nat.le_trans T.size E.size, T.lx, T.xy, T.yd⟩
theorem TwoAt.wrY (T : TwoAt h bx by' bd P X Q Y a1 c1 a2 c2 g) (z : HashAt g' by' Z) (E : ExB by' g g') : TwoAt h bx by' bd P X Q Z a1 c1 a2 c2 g' :=
  have := T.xy
  have := T.lx
  ⟨T.p.exb E T.yd, T.q.exb E T.yd, T.apt, T.x.exb E (by omega), z, bel_of_exb T.ext E (Nat.le_refl _) (by omega), Nat.le_trans T.size E.size, T.lx, T.xy, T.yd⟩
theorem TwoAt.appP (T : TwoAt h bx by' bd P X Q Y a1 c1 a2 c2 g) (B : Bs g' bd 5 a' c' Z) (G : GrA g g' a1) (q : a' = a1 ∨ a' = some ⟨g.size, 0, none⟩ ∨ a' = none) : TwoAt h bx by' bd Z X Q Y a' c' a2 c2 g' :=
  have := T.xy
  have := T.yd
  have := T.lx
  have := T.size
  ⟨B, T.q.other G T.p T.apt, T.apt.app T.q q, T.x.keep (G.old T.p (by omega) (by omega)), T.y.keep (G.old T.p (by omega) (by omega)), G.bel T.ext T.p (by omega) (Nat.le_refl _), Nat.le_trans T.size G.size, T.lx, T.xy, T.yd⟩
theorem TwoAt.appQ (T : TwoAt h bx by' bd P X Q Y a1 c1 a2 c2 g) (B : Bs g' bd 5 a' c' Z) (G : GrA g g' a2) (q : a' = a2 ∨ a' = some ⟨g.size, 0, none⟩ ∨ a' = none) : TwoAt h bx by' bd P X Z Y a1 c1 a' c' g' :=
  have := T.xy
  have := T.yd
  have := T.lx
  have := T.size
  ⟨T.p.other G T.q T.apt.comm, B, (T.apt.comm.app T.p q).comm, T.x.keep (G.old T.q (by omega) (by omega)), T.y.keep (G.old T.q (by omega) (by omega)), G.bel T.ext T.q (by omega) (Nat.le_refl _), Nat.le_trans T.size G.size, T.lx, T.xy, T.yd⟩
end
theorem Src.of_byt {h : Heap} {a : Option Addr} {xs : List UInt8} {nb : Nat} (x : Byt h a xs) (hn : ∀ sb so, a = some ⟨sb, so, none⟩ → sb ≠ nb) : Src h nb a xs := by
  rcases x with e | ⟨tb, to, q1, q2⟩
  · exact .inl e
  · exact .inr ⟨tb, to, q1, hn tb to q1, q2⟩
set_option maxRecDepth 10000 in
theorem lawTwo_ch (h : Heap) (l1 l2 : List (Option Addr × Nat × List UInt8)) (a b : Option Addr) (cap1 cap2 : Nat) (hL1 : Byts h a l1) (hL2 : Byts h b l2) :
    CH Try.prog 6 #[.slice a l1.length cap1, .slice b l2.length cap2] h fun v h' => v = .bool true ∧ Ext h h' := by
  refine CH.of_body Try.func6 rfl rfl rfl ?_
  intro f hf
  have p0 : f 0 = .slice a l1.length cap1 := by rw [hf]; exact fr0_at rfl
  have p1 : f 1 = .slice b l2.length cap2 := by rw [hf]; exact fr0_at rfl
  -- region 0
  repeat refine HW.seq ?_
  refine HW.region ?_
  refine HL.still (Runs.assign rfl) ?_
  intro u4 e4
  refine HL.nil ?_
  -- region 1
  repeat refine HW.seq ?_
  refine HW.region ?_
  refine HL.one (HO.call Try.func13 bd13 nm13 (args0) rfl ((small_ch _).mono ?_))
  rintro _ h1 ⟨rfl, E1⟩
  intro u11 e11
  refine HL.still (Runs.assign e11) ?_
  intro u5 e5
  refine HL.nil ?_
  -- region 2
  repeat refine HW.seq ?_
  refine HW.region ?_
  refine HL.one (HO.call Try.func16 bd16 nm16 (args0) rfl ((new_ch _).mono ?_))
  rintro _ h2 ⟨rfl, hX2, E2⟩
  intro u12 e12
  refine HL.still (Runs.assign e12) ?_
  intro u6 e6
  refine HL.nil ?_
  -- region 3
  repeat refine HW.seq ?_
  refine HW.region ?_
  refine HL.one (HO.call Try.func16 bd16 nm16 (args0) rfl ((new_ch _).mono ?_))
  rintro _ h3 ⟨rfl, hY3, E3⟩
  intro u13 e13
  refine HL.still (Runs.assign e13) ?_
  intro u7 e7
  refine HL.nil ?_
  have z1 := E1.size
  have z2 := E2.size
  have z3 := E3.size
  have l2' := hX2.lt
  have l3' := hY3.lt
  have X3 : Ext h h3 := (E1.ext E2 (Nat.le_refl _)).ext E3 (Nat.le_refl _)
  by_cases hb1 : l1.length > 20
  · skip
    -- region 4
    repeat refine HW.seq ?_
    refine HW.region ?_
    refine HL.still (Runs.move e6) ?_
    intro u14 e14
    refine HL.still (Runs.eqNil Try.underlying29 e14 rfl) ?_
    intro u15 e15
    refine HL.still (Runs.move e15) ?_
    intro u16 e16
    refine HL.stillG rfl rfl e16 (Runs.move e7) ?_
    intro u17 e17
    refine HL.stillG rfl rfl e16 (Runs.eqNil Try.underlying29 e17 rfl) ?_
    intro u18 e18
    refine HL.still (Runs.pick e16 e18) ?_
    intro u19 e19
    refine HL.still (Runs.move e19) ?_
    intro u20 e20
    refine HL.stillG rfl rfl e20 (Runs.move p0) ?_
    intro u21 e21
    refine HL.stillG rfl rfl e20 (Runs.lenSl rfl Try.underlying28 e21) ?_
    intro u22 e22
    refine HL.stillG rfl rfl e20 (Runs.gtr e22 rfl (t := true) (decide_eq_true (by omega))) ?_
    intro u23 e23
    refine HL.still (Runs.pick e20 e23) ?_
    intro u24 e24
    refine HL.still (Runs.move e24) ?_
    intro u25 e25
    refine HL.skipG rfl rfl e25 ?_
    intro u26 e26
    refine HL.skipG rfl rfl e25 ?_
    intro u27 e27
    refine HL.skipG rfl rfl e25 ?_
    intro u28 e28
    refine HL.still (Runs.pick e25 rfl) ?_
    intro u29 e29
    refine HL.nil ?_
    repeat refine HW.seq ?_
    refine HW.yes ?_ ?_
    exact e29
    -- region 5
    repeat refine HW.seq ?_
    refine HW.region ?_
    refine HL.still (Runs.move e5) ?_
    intro u30 e30
    refine HL.still (Runs.move e30) ?_
    intro u31 e31
    refine HL.stillG rfl rfl e31 (Runs.move e6) ?_
    intro u32 e32
    refine HL.stillG rfl rfl e31 (Runs.neqNil Try.underlying29 e32 rfl) ?_
    intro u33 e33
    refine HL.still (Runs.pick e31 e33) ?_
    intro u34 e34
    refine HL.still (Runs.move e34) ?_
    intro u35 e35
    refine HL.stillG rfl rfl e35 (Runs.move e7) ?_
    intro u36 e36
    refine HL.stillG rfl rfl e35 (Runs.neqNil Try.underlying29 e36 rfl) ?_
    intro u37 e37
    refine HL.still (Runs.pick e35 e37) ?_
    intro u38 e38
    refine HL.still (Runs.assign e38) ?_
    intro u4 e4
    refine HL.nil ?_
    refine HW.ret ?_
    exact RT.one rfl e4 ⟨rfl, X3⟩
  by_cases hb2 : l2.length > 20
  · skip
    -- region 4
    repeat refine HW.seq ?_
    refine HW.region ?_
    refine HL.still (Runs.move e6) ?_
    intro u14 e14
    refine HL.still (Runs.eqNil Try.underlying29 e14 rfl) ?_
    intro u15 e15
    refine HL.still (Runs.move e15) ?_
    intro u16 e16
    refine HL.stillG rfl rfl e16 (Runs.move e7) ?_
    intro u17 e17
    refine HL.stillG rfl rfl e16 (Runs.eqNil Try.underlying29 e17 rfl) ?_
    intro u18 e18
    refine HL.still (Runs.pick e16 e18) ?_
    intro u19 e19
    refine HL.still (Runs.move e19) ?_
    intro u20 e20
    refine HL.stillG rfl rfl e20 (Runs.move p0) ?_
    intro u21 e21
    refine HL.stillG rfl rfl e20 (Runs.lenSl rfl Try.underlying28 e21) ?_
    intro u22 e22
    refine HL.stillG rfl rfl e20 (Runs.gtr e22 rfl (t := false) (decide_eq_false (by omega))) ?_
    intro u23 e23
    refine HL.still (Runs.pick e20 e23) ?_
    intro u24 e24
    refine HL.still (Runs.move e24) ?_
    intro u25 e25
    refine HL.stillG rfl rfl e25 (Runs.move p1) ?_
    intro u26 e26
    refine HL.stillG rfl rfl e25 (Runs.lenSl rfl Try.underlying28 e26) ?_
    intro u27 e27
    refine HL.stillG rfl rfl e25 (Runs.gtr e27 rfl (t := true) (decide_eq_true (by omega))) ?_
    intro u28 e28
    refine HL.still (Runs.pick e25 e28) ?_
    intro u29 e29
    refine HL.nil ?_
    repeat refine HW.seq ?_
    refine HW.yes ?_ ?_
    exact e29
    -- region 5
    repeat refine HW.seq ?_
    refine HW.region ?_
    refine HL.still (Runs.move e5) ?_
    intro u30 e30
    refine HL.still (Runs.move e30) ?_
    intro u31 e31
    refine HL.stillG rfl rfl e31 (Runs.move e6) ?_
    intro u32 e32
    refine HL.stillG rfl rfl e31 (Runs.neqNil Try.underlying29 e32 rfl) ?_
    intro u33 e33
    refine HL.still (Runs.pick e31 e33) ?_
    intro u34 e34
    refine HL.still (Runs.move e34) ?_
    intro u35 e35
    refine HL.stillG rfl rfl e35 (Runs.move e7) ?_
    intro u36 e36
    refine HL.stillG rfl rfl e35 (Runs.neqNil Try.underlying29 e36 rfl) ?_
    intro u37 e37
    refine HL.still (Runs.pick e35 e37) ?_
    intro u38 e38
    refine HL.still (Runs.assign e38) ?_
    intro u4 e4
    refine HL.nil ?_
    refine HW.ret ?_
    exact RT.one rfl e4 ⟨rfl, X3⟩
  -- region 4
  repeat refine HW.seq ?_
  refine HW.region ?_
  refine HL.still (Runs.move e6) ?_
  intro u14 e14
  refine HL.still (Runs.eqNil Try.underlying29 e14 rfl) ?_
  intro u15 e15
  refine HL.still (Runs.move e15) ?_
  intro u16 e16
  refine HL.stillG rfl rfl e16 (Runs.move e7) ?_
  intro u17 e17
  refine HL.stillG rfl rfl e16 (Runs.eqNil Try.underlying29 e17 rfl) ?_
  intro u18 e18
  refine HL.still (Runs.pick e16 e18) ?_
  intro u19 e19
  refine HL.still (Runs.move e19) ?_
  intro u20 e20
  refine HL.stillG rfl rfl e20 (Runs.move p0) ?_
  intro u21 e21
  refine HL.stillG rfl rfl e20 (Runs.lenSl rfl Try.underlying28 e21) ?_
  intro u22 e22
  refine HL.stillG rfl rfl e20 (Runs.gtr e22 rfl (t := false) (decide_eq_false (by omega))) ?_
  intro u23 e23
  refine HL.still (Runs.pick e20 e23) ?_
  intro u24 e24
  refine HL.still (Runs.move e24) ?_
  intro u25 e25
  refine HL.stillG rfl rfl e25 (Runs.move p1) ?_
  intro u26 e26
  refine HL.stillG rfl rfl e25 (Runs.lenSl rfl Try.underlying28 e26) ?_
  intro u27 e27
  refine HL.stillG rfl rfl e25 (Runs.gtr e27 rfl (t := false) (decide_eq_false (by omega))) ?_
  intro u28 e28
  refine HL.still (Runs.pick e25 e28) ?_
  intro u29 e29
  refine HL.nil ?_
  repeat refine HW.seq ?_
  refine HW.no ?_ ?_
  exact e29
  refine HW.skip ?_
  -- region 6
  repeat refine HW.seq ?_
  refine HW.region ?_
  refine HL.still (Runs.assign rfl) ?_
  intro u8 e8
  refine HL.nil ?_
  -- region 7
  repeat refine HW.seq ?_
  refine HW.region ?_
  refine HL.still (Runs.assign rfl) ?_
  intro u9 e9
  refine HL.nil ?_
  -- region 8
  repeat refine HW.seq ?_
  refine HW.region ?_
  refine HL.still (Runs.assign rfl) ?_
  intro u10 e10
  refine HL.nil ?_
  repeat refine HW.seq ?_
  refine HW.block ?_
  refine HW.loop (fun m f g => ∃ i : Nat, i ≤ l1.length + l2.length ∧ m = l1.length + l2.length - i ∧ f 10 = I64 i ∧ f 0 = .slice a l1.length cap1 ∧ f 1 = .slice b l2.length cap2 ∧ f 5 = .bool true ∧ f 6 = .pointer (some ⟨h1.size, 0, none⟩) ∧ f 7 = .pointer (some ⟨h2.size, 0, none⟩) ∧
    ∃ a1 c1 a2 c2, f 8 = .slice a1 (cat l1 i).length c1 ∧ f 9 = .slice a2 (cat l2 i).length c2 ∧ (cat l1 i).length ≤ 300 * i ∧ (cat l2 i).length ≤ 300 * i ∧ TwoAt h h1.size h2.size h3.size (cat l1 i) (cat l1 i) (cat l2 i) (cat l2 i) a1 c1 a2 c2 g) (l1.length + l2.length)
    ⟨0, Nat.zero_le _, rfl, e10, p0, p1, e5, e6, e7, none, 0, none, 0, e8, e9, Nat.zero_le _, Nat.zero_le _, Bs.start _ _ _, Bs.start _ _ _, (fun _ q => by cases q), hX2.ext E3, hY3, X3, Nat.le_refl _, by omega, by omega, by omega⟩ ?_
  clear e5 e6 e7 e8 e9 e10 p0 p1
  rintro m f g ⟨i, hi, hm, f10, f0, f1, f5, f6, f7, a1, c1, a2, c2, f8, f9, hl1, hl2, T⟩
  by_cases hlt : i < l1.length ∨ i < l2.length
  · refine HW.seq ?_
    refine HW.mono (N := fun f g' => g' = g ∧ f 10 = I64 i ∧ f 0 = .slice a l1.length cap1 ∧ f 1 = .slice b l2.length cap2 ∧ f 5 = .bool true ∧ f 6 = .pointer (some ⟨h1.size, 0, none⟩) ∧ f 7 = .pointer (some ⟨h2.size, 0, none⟩) ∧ f 8 = .slice a1 (cat l1 i).length c1 ∧ f 9 = .slice a2 (cat l2 i).length c2) ?_ ?_ (fun _ _ _ h => h) (fun _ _ h => h)
    · by_cases hx : i < l1.length
      · skip
        -- region 9
        repeat refine HW.seq ?_
        refine HW.region ?_
        refine HL.still (Runs.move f10) ?_
        intro u39 e39
        refine HL.still (Runs.move f0) ?_
        intro u40 e40
        refine HL.still (Runs.lenSl rfl Try.underlying28 e40) ?_
        intro u41 e41
        refine HL.still (Runs.lss e39 e41 (t := true) (decide_eq_true (by omega))) ?_
        intro u42 e42
        refine HL.still (Runs.move e42) ?_
        intro u43 e43
        refine HL.skipG rfl rfl e43 ?_
        intro u44 e44
        refine HL.skipG rfl rfl e43 ?_
        intro u45 e45
        refine HL.skipG rfl rfl e43 ?_
        intro u46 e46
        refine HL.skipG rfl rfl e43 ?_
        intro u47 e47
        refine HL.still (Runs.pick e43 rfl) ?_
        intro u48 e48
        refine HL.nil ?_
        repeat refine HW.seq ?_
        refine HW.yes ?_ ?_
        exact e48
        refine HW.skip ?_
        exact ⟨rfl, f10, f0, f1, f5, f6, f7, f8, f9⟩
      · skip
        -- region 9
        repeat refine HW.seq ?_
        refine HW.region ?_
        refine HL.still (Runs.move f10) ?_
        intro u39 e39
        refine HL.still (Runs.move f0) ?_
        intro u40 e40
        refine HL.still (Runs.lenSl rfl Try.underlying28 e40) ?_
        intro u41 e41
        refine HL.still (Runs.lss e39 e41 (t := false) (decide_eq_false (by omega))) ?_
        intro u42 e42
        refine HL.still (Runs.move e42) ?_
        intro u43 e43
        refine HL.stillG rfl rfl e43 (Runs.move f10) ?_
        intro u44 e44
        refine HL.stillG rfl rfl e43 (Runs.move f1) ?_
        intro u45 e45
        refine HL.stillG rfl rfl e43 (Runs.lenSl rfl Try.underlying28 e45) ?_
        intro u46 e46
        refine HL.stillG rfl rfl e43 (Runs.lss e44 e46 (t := true) (decide_eq_true (by omega))) ?_
        intro u47 e47
        refine HL.still (Runs.pick e43 e47) ?_
        intro u48 e48
        refine HL.nil ?_
        repeat refine HW.seq ?_
        refine HW.yes ?_ ?_
        exact e48
        refine HW.skip ?_
        exact ⟨rfl, f10, f0, f1, f5, f6, f7, f8, f9⟩
    clear f0 f1 f5 f6 f7 f8 f9 f10
    rintro f g' ⟨rfl, f10, f0, f1, f5, f6, f7, f8, f9⟩
    repeat refine HW.seq ?_
    refine HW.block ?_
    -- region 11
    repeat refine HW.seq ?_
    refine HW.region ?_
    refine HL.still (Runs.move f10) ?_
    intro u51 e51
    refine HL.still (Runs.move f0) ?_
    intro u52 e52
    refine HL.still (Runs.lenSl rfl Try.underlying28 e52) ?_
    intro u53 e53
    refine HL.still (Runs.lss e51 e53 rfl) ?_
    intro u54 e54
    refine HL.nil ?_
    refine HW.mono (N := fun f g => f 10 = I64 i ∧ f 0 = .slice a l1.length cap1 ∧ f 1 = .slice b l2.length cap2 ∧ f 5 = .bool true ∧ f 6 = .pointer (some ⟨h1.size, 0, none⟩) ∧ f 7 = .pointer (some ⟨h2.size, 0, none⟩) ∧ f 9 = .slice a2 (cat l2 i).length c2 ∧ ∃ a1 c1, f 8 = .slice a1 (cat l1 (i + 1)).length c1 ∧ (cat l1 (i + 1)).length ≤ 300 * (i + 1) ∧ TwoAt h h1.size h2.size h3.size (cat l1 (i + 1)) (cat l1 (i + 1)) (cat l2 i) (cat l2 i) a1 c1 a2 c2 g) ?_ ?_ (fun _ _ _ h => h) (fun _ _ h => h)
    · by_cases hx : i < l1.length
      · skip
        repeat refine HW.seq ?_
        refine HW.yes ?_ ?_
        exact e54.trans (congrArg Value.bool (decide_eq_true (by omega)))
        obtain ⟨sb, so, ha, b', c', ys, hy, hcell, hbyt, hle⟩ := hL1.at hx
        have hbl := lt_of_cellH hcell
        have hcell' := (cellH_keep (T.ext.old sb hbl)).trans hcell
        have f0' := f0
        rw [ha] at f0'
        -- region 12
        repeat refine HW.seq ?_
        refine HW.region ?_
        refine HL.still (Runs.move f0') ?_
        intro u55 e55
        refine HL.still (Runs.move f10) ?_
        intro u56 e56
        refine HL.still (Runs.ixSl (o' := so + i) Try.underlying28 sz22 e55 e56 (by omega) (by omega) (by omega)) ?_
        intro u57 e57
        refine HL.still (Runs.load Try.underlying22 rfl e57 hcell') ?_
        intro u58 e58
        refine HL.still (Runs.lenSl rfl Try.underlying22 e58) ?_
        intro u59 e59
        refine HL.still (Runs.gtr e59 rfl rfl) ?_
        intro u60 e60
        refine HL.nil ?_
        by_cases hlong : ys.length > 300
        · skip
          repeat refine HW.seq ?_
          refine HW.yes ?_ ?_
          exact e60.trans (congrArg Value.bool (decide_eq_true (by omega)))
          -- region 13
          repeat refine HW.seq ?_
          refine HW.region ?_
          refine HL.still (Runs.move f5) ?_
          intro u61 e61
          refine HL.still (Runs.assign e61) ?_
          intro u4 e4
          refine HL.nil ?_
          refine HW.ret ?_
          exact RT.one rfl e4 ⟨rfl, T.ext⟩
        · skip
          repeat refine HW.seq ?_
          refine HW.no ?_ ?_
          exact e60.trans (congrArg Value.bool (decide_eq_false (by omega)))
          refine HW.skip ?_
          have hci : (cat l1 i).length + ys.length < 100000 := by omega
          -- region 14
          repeat refine HW.seq ?_
          refine HW.region ?_
          refine HL.still (Runs.move f6) ?_
          intro u62 e62
          refine HL.still (Runs.move f0') ?_
          intro u63 e63
          refine HL.still (Runs.move f10) ?_
          intro u64 e64
          refine HL.still (Runs.ixSl (o' := so + i) Try.underlying28 sz22 e63 e64 (by omega) (by omega) (by omega)) ?_
          intro u65 e65
          refine HL.still (Runs.load Try.underlying22 rfl e65 hcell') ?_
          intro u66 e66
          refine HL.one (HO.call Try.func17 bd17 nm17 (args2 e62 e66) rfl ((write_ch _ h1.size (cat l1 i) ys b' c' T.x (hbyt.src T.ext T.lx) hle (by omega)).mono ?_))
          rintro _ h4 ⟨rfl, hX4, E4⟩
          intro u67 e67
          refine HL.nil ?_
          have T4 := T.wrX hX4 E4
          have z4 := T4.size
          -- region 15
          repeat refine HW.seq ?_
          refine HW.region ?_
          refine HL.still (Runs.move f8) ?_
          intro u68 e68
          refine HL.still (Runs.move f0') ?_
          intro u69 e69
          refine HL.still (Runs.move f10) ?_
          intro u70 e70
          refine HL.still (Runs.ixSl (o' := so + i) Try.underlying28 sz22 e69 e70 (by omega) (by omega) (by omega)) ?_
          intro u71 e71
          refine HL.still (Runs.load Try.underlying22 rfl e71 ((cellH_keep (T4.ext.old sb hbl)).trans hcell)) ?_
          intro u72 e72
          refine HL.one (HO.app2 Try.underlying22 in5 rfl e68 e72 rfl rfl T4.p (hbyt.ext T4.ext) (by omega) T4.size ?_)
          intro a5 c5 h5 B5 G5 q5
          intro u73 e73
          refine HL.still (Runs.assign e73) ?_
          intro u8 e8
          refine HL.nil ?_
          have T5 := T4.appP B5 G5 q5
          rw [← cat_succ hy] at T5 e8
          exact ⟨f10, f0, f1, f5, f6, f7, f9, a5, c5, e8, by rw [cat_succ hy, List.length_append]; omega, T5⟩
      · skip
        repeat refine HW.seq ?_
        refine HW.no ?_ ?_
        exact e54.trans (congrArg Value.bool (decide_eq_false (by omega)))
        refine HW.skip ?_
        rw [cat_ge (by omega)]
        exact ⟨f10, f0, f1, f5, f6, f7, f9, a1, c1, f8, by omega, T⟩
    clear T hl1 f0 f1 f5 f6 f7 f8 f9 f10
    rintro f g ⟨f10, f0, f1, f5, f6, f7, f9, a1, c1, f8, hl1, T⟩
    -- region 16
    repeat refine HW.seq ?_
    refine HW.region ?_
    refine HL.still (Runs.move f10) ?_
    intro u74 e74
    refine HL.still (Runs.move f1) ?_
    intro u75 e75
    refine HL.still (Runs.lenSl rfl Try.underlying28 e75) ?_
    intro u76 e76
    refine HL.still (Runs.lss e74 e76 rfl) ?_
    intro u77 e77
    refine HL.nil ?_
    by_cases hx : i < l2.length
    · skip
      repeat refine HW.seq ?_
      refine HW.yes ?_ ?_
      exact e77.trans (congrArg Value.bool (decide_eq_true (by omega)))
      obtain ⟨sb, so, ha, b', c', ys, hy, hcell, hbyt, hle⟩ := hL2.at hx
      have hbl := lt_of_cellH hcell
      have hcell' := (cellH_keep (T.ext.old sb hbl)).trans hcell
      have f1' := f1
      rw [ha] at f1'
      -- region 17
      repeat refine HW.seq ?_
      refine HW.region ?_
      refine HL.still (Runs.move f1') ?_
      intro u78 e78
      refine HL.still (Runs.move f10) ?_
      intro u79 e79
      refine HL.still (Runs.ixSl (o' := so + i) Try.underlying28 sz22 e78 e79 (by omega) (by omega) (by omega)) ?_
      intro u80 e80
      refine HL.still (Runs.load Try.underlying22 rfl e80 hcell') ?_
      intro u81 e81
      refine HL.still (Runs.lenSl rfl Try.underlying22 e81) ?_
      intro u82 e82
      refine HL.still (Runs.gtr e82 rfl rfl) ?_
      intro u83 e83
      refine HL.nil ?_
      by_cases hlong : ys.length > 300
      · skip
        repeat refine HW.seq ?_
        refine HW.yes ?_ ?_
        exact e83.trans (congrArg Value.bool (decide_eq_true (by omega)))
        -- region 18
        repeat refine HW.seq ?_
        refine HW.region ?_
        refine HL.still (Runs.move f5) ?_
        intro u84 e84
        refine HL.still (Runs.assign e84) ?_
        intro u4 e4
        refine HL.nil ?_
        refine HW.ret ?_
        exact RT.one rfl e4 ⟨rfl, T.ext⟩
      · skip
        repeat refine HW.seq ?_
        refine HW.no ?_ ?_
        exact e83.trans (congrArg Value.bool (decide_eq_false (by omega)))
        refine HW.skip ?_
        have hci : (cat l2 i).length + ys.length < 100000 := by omega
        have hby : h.size ≤ h2.size := by omega
        -- region 19
        repeat refine HW.seq ?_
        refine HW.region ?_
        refine HL.still (Runs.move f7) ?_
        intro u85 e85
        refine HL.still (Runs.move f1') ?_
        intro u86 e86
        refine HL.still (Runs.move f10) ?_
        intro u87 e87
        refine HL.still (Runs.ixSl (o' := so + i) Try.underlying28 sz22 e86 e87 (by omega) (by omega) (by omega)) ?_
        intro u88 e88
        refine HL.still (Runs.load Try.underlying22 rfl e88 hcell') ?_
        intro u89 e89
        refine HL.one (HO.call Try.func17 bd17 nm17 (args2 e85 e89) rfl ((write_ch _ h2.size (cat l2 i) ys b' c' T.y (hbyt.src T.ext hby) hle (by omega)).mono ?_))
        rintro _ h4 ⟨rfl, hY4, E4⟩
        intro u90 e90
        refine HL.nil ?_
        have T4 := T.wrY hY4 E4
        -- region 20
        repeat refine HW.seq ?_
        refine HW.region ?_
        refine HL.still (Runs.move f9) ?_
        intro u91 e91
        refine HL.still (Runs.move f1') ?_
        intro u92 e92
        refine HL.still (Runs.move f10) ?_
        intro u93 e93
        refine HL.still (Runs.ixSl (o' := so + i) Try.underlying28 sz22 e92 e93 (by omega) (by omega) (by omega)) ?_
        intro u94 e94
        refine HL.still (Runs.load Try.underlying22 rfl e94 ((cellH_keep (T4.ext.old sb hbl)).trans hcell)) ?_
        intro u95 e95
        refine HL.one (HO.app2 Try.underlying22 in5 rfl e91 e95 rfl rfl T4.q (hbyt.ext T4.ext) (by omega) T4.size ?_)
        intro a5 c5 h5 B5 G5 q5
        intro u96 e96
        refine HL.still (Runs.assign e96) ?_
        intro u9 e9
        refine HL.nil ?_
        have T5 := T4.appQ B5 G5 q5
        rw [← cat_succ hy] at T5 e9
        -- region 10
        repeat refine HW.seq ?_
        refine HW.region ?_
        refine HL.still (Runs.move f10) ?_
        intro u49 e49
        refine HL.still (Runs.add e49 rfl (i64w (by omega))) ?_
        intro u50 e50
        refine HL.still (Runs.assign e50) ?_
        intro u10 e10
        refine HL.nil ?_
        exact ⟨l1.length + l2.length - (i + 1), by omega, i + 1, by omega, rfl, e10, f0, f1, f5, f6, f7, a1, c1, a5, c5, f8, e9, hl1, by rw [cat_succ hy, List.length_append]; omega, T5⟩
    · skip
      repeat refine HW.seq ?_
      refine HW.no ?_ ?_
      exact e77.trans (congrArg Value.bool (decide_eq_false (by omega)))
      refine HW.skip ?_
      -- region 10
      repeat refine HW.seq ?_
      refine HW.region ?_
      refine HL.still (Runs.move f10) ?_
      intro u49 e49
      refine HL.still (Runs.add e49 rfl (i64w (by omega))) ?_
      intro u50 e50
      refine HL.still (Runs.assign e50) ?_
      intro u10 e10
      refine HL.nil ?_
      refine ⟨l1.length + l2.length - (i + 1), by omega, i + 1, by omega, rfl, e10, f0, f1, f5, f6, f7, a1, c1, a2, c2, f8, ?_⟩
      rw [cat_ge (l := l2) (by omega)]
      exact ⟨f9, hl1, by omega, T⟩
  · skip
    -- region 9
    repeat refine HW.seq ?_
    refine HW.region ?_
    refine HL.still (Runs.move f10) ?_
    intro u39 e39
    refine HL.still (Runs.move f0) ?_
    intro u40 e40
    refine HL.still (Runs.lenSl rfl Try.underlying28 e40) ?_
    intro u41 e41
    refine HL.still (Runs.lss e39 e41 (t := false) (decide_eq_false (by omega))) ?_
    intro u42 e42
    refine HL.still (Runs.move e42) ?_
    intro u43 e43
    refine HL.stillG rfl rfl e43 (Runs.move f10) ?_
    intro u44 e44
    refine HL.stillG rfl rfl e43 (Runs.move f1) ?_
    intro u45 e45
    refine HL.stillG rfl rfl e43 (Runs.lenSl rfl Try.underlying28 e45) ?_
    intro u46 e46
    refine HL.stillG rfl rfl e43 (Runs.lss e44 e46 (t := false) (decide_eq_false (by omega))) ?_
    intro u47 e47
    refine HL.still (Runs.pick e43 e47) ?_
    intro u48 e48
    refine HL.nil ?_
    repeat refine HW.seq ?_
    refine HW.no ?_ ?_
    exact e48
    refine HW.exitHere ?_
    have x1 := T.x
    have y1 := T.y
    -- region 21
    repeat refine HW.seq ?_
    refine HW.region ?_
    refine HL.still (Runs.move f5) ?_
    intro u97 e97
    refine HL.still (Runs.move e97) ?_
    intro u98 e98
    refine HL.stillG rfl rfl e98 (Runs.move f6) ?_
    intro u99 e99
    refine HL.oneG rfl rfl e98 (HO.call Try.func18 bd18 nm18 (args1 e99) rfl ((hsum_ch g h1.size _ T.x (by omega)).mono ?_))
    rintro _ h4 ⟨rfl, E4⟩
    intro u100 e100
    refine HL.stillG rfl rfl e98 (Runs.move f8) ?_
    intro u101 e101
    refine HL.oneG rfl rfl e98 (HO.call Try.func14 bd14 nm14 (args1 e101) rfl ((sum_ch h4 _ a1 c1 (T.p.byt.ext E4) T.p.2 (by omega)).mono ?_))
    rintro _ h5 ⟨rfl, E5⟩
    intro u102 e102
    refine HL.stillG rfl rfl e98 (Runs.eqBytes Try.underlying25 Try.underlying5 sz5 eg25 e100 e102 (t := true) (SHA_len _) (SHA_len _) (beq_self_eq_true _)) ?_
    intro u103 e103
    refine HL.still (Runs.pick e98 e103) ?_
    intro u104 e104
    refine HL.still (Runs.move e104) ?_
    intro u105 e105
    refine HL.stillG rfl rfl e105 (Runs.move f7) ?_
    intro u106 e106
    refine HL.oneG rfl rfl e105 (HO.call Try.func18 bd18 nm18 (args1 e106) rfl ((hsum_ch h5 h2.size _ ((T.y.ext E4).ext E5) (by omega)).mono ?_))
    rintro _ h6 ⟨rfl, E6⟩
    intro u107 e107
    refine HL.stillG rfl rfl e105 (Runs.move f9) ?_
    intro u108 e108
    refine HL.oneG rfl rfl e105 (HO.call Try.func14 bd14 nm14 (args1 e108) rfl ((sum_ch h6 _ a2 c2 (((T.q.byt.ext E4).ext E5).ext E6) T.q.2 (by omega)).mono ?_))
    rintro _ h7 ⟨rfl, E7⟩
    intro u109 e109
    refine HL.stillG rfl rfl e105 (Runs.eqBytes Try.underlying25 Try.underlying5 sz5 eg25 e107 e109 (t := true) (SHA_len _) (SHA_len _) (beq_self_eq_true _)) ?_
    intro u110 e110
    refine HL.still (Runs.pick e105 e110) ?_
    intro u111 e111
    refine HL.still (Runs.move e111) ?_
    intro u112 e112
    refine HL.stillG rfl rfl e112 (Runs.move f6) ?_
    intro u113 e113
    refine HL.oneG rfl rfl e112 (HO.call Try.func19 bd19 nm19 (args1 e113) rfl ((len_ext h7 h1.size _ ((((T.x.ext E4).ext E5).ext E6).ext E7)).mono ?_))
    rintro _ h8 ⟨rfl, E8⟩
    intro u114 e114
    refine HL.stillG rfl rfl e112 (Runs.move f8) ?_
    intro u115 e115
    refine HL.stillG rfl rfl e112 (Runs.lenSl rfl Try.underlying22 e115) ?_
    intro u116 e116
    refine HL.stillG rfl rfl e112 (Runs.eql e114 e116 (t := true) (by simp)) ?_
    intro u117 e117
    refine HL.still (Runs.pick e112 e117) ?_
    intro u118 e118
    refine HL.still (Runs.move e118) ?_
    intro u119 e119
    refine HL.stillG rfl rfl e119 (Runs.move f7) ?_
    intro u120 e120
    refine HL.oneG rfl rfl e119 (HO.call Try.func19 bd19 nm19 (args1 e120) rfl ((len_ext h8 h2.size _ (((((T.y.ext E4).ext E5).ext E6).ext E7).ext E8)).mono ?_))
    rintro _ h9 ⟨rfl, E9⟩
    intro u121 e121
    refine HL.stillG rfl rfl e119 (Runs.move f9) ?_
    intro u122 e122
    refine HL.stillG rfl rfl e119 (Runs.lenSl rfl Try.underlying22 e122) ?_
    intro u123 e123
    refine HL.stillG rfl rfl e119 (Runs.eql e121 e123 (t := true) (by simp)) ?_
    intro u124 e124
    refine HL.still (Runs.pick e119 e124) ?_
    intro u125 e125
    refine HL.still (Runs.assign e125) ?_
    intro u4 e4
    refine HL.nil ?_
    refine HW.ret ?_
    have Z := T.ext
    exact RT.one rfl e4 ⟨rfl, (((((Z.ext E4 (Nat.le_refl _)).ext E5 (Nat.le_refl _)).ext E6 (Nat.le_refl _)).ext E7 (Nat.le_refl _)).ext E8 (Nat.le_refl _)).ext E9 (Nat.le_refl _)⟩
end Go.Proofs.Ytbfmkjfpialihaa
