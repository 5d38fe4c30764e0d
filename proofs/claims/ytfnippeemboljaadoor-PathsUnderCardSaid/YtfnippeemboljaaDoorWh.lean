/- cmp.Or; Compare, both. -/
import Derived.Test.YtfnippeemboljaaDoorPx
namespace Go.Proofs.YtfnippeemboljaaDoor
set_option linter.unnecessarySimpa false
set_option linter.unusedSimpArgs false
set_option linter.unusedVariables false
open Go.RowKit
section
variable {ρ : Operand → Value} {h : Heap} {d : Option Tmp} {ty : TypeId} {pos : String} {af : Array Edge} {gd : Option (Nat × Bool)} {K : Value → Heap → Prop} {x y : Operand}
theorem run_int2 (p q : Int) (w : World) : (Instr.buildSlice 64 2 #[(0, I64 p), (1, I64 q)]).run Tryd.prog w = .ok (.slice (some ⟨w.heap.size, 0, none⟩) 2 2) (w.alloc (.cells ([p, q].map I64).toArray 3)) := by kernel_rfl
theorem HO.int2 (p q : Int) (hx : ρ x = I64 p) (hy : ρ y = I64 q) (k : ∀ h', Nw h h' (.cells ([p, q].map I64).toArray 3 (0, 0)) → K (.slice (some ⟨h.size, 0, none⟩) 2 2) h') : HO Tryd.prog ⟨d, .buildSlice 64 2 #[(0, x), (1, y)], ty, pos, af, gd⟩ ρ h K :=
  HO.buildSlice (fun w => by
    have e : (#[(0, x), (1, y)] : Array (Nat × Operand)).map (fun (i, x) => (i, ρ x)) = #[(0, I64 p), (1, I64 q)] := by simp [hx, hy]
    rw [e]
    exact run_int2 p q w) k
end
theorem or_ch (h : Heap) (p q : Int) (b : Nat) (hb : h[b]? = some (.cells ([p, q].map I64).toArray 3 (0, 0))) : CH Tryd.prog 33 #[.slice (some ⟨b, 0, none⟩) 2 2] h fun v h' => v = I64 (orI p q) ∧ h' = h := by
  refine CH.of_body Tryd.func33 rfl rfl rfl ?_
  intro f hf
  have p0 : f 0 = .slice (some ⟨b, 0, none⟩) 2 2 := by rw [hf]; exact fr0_at rfl
  -- region 0
  repeat refine HW.seq ?_
  refine HW.region ?_
  refine HL.still (Runs.assign rfl) ?_
  intro u2 e2
  refine HL.nil ?_
  -- region 1
  repeat refine HW.seq ?_
  refine HW.region ?_
  refine HL.still (Runs.assign rfl) ?_
  intro u3 e3
  refine HL.nil ?_
  -- region 2
  repeat refine HW.seq ?_
  refine HW.region ?_
  refine HL.still (Runs.move p0) ?_
  intro u6 e6
  refine HL.still (Runs.lenSl rfl Tryd.underlying64 e6) ?_
  intro u7 e7
  refine HL.still (Runs.move rfl) ?_
  intro u8 e8
  refine HL.nil ?_
  repeat refine HW.seq ?_
  refine HW.block ?_
  refine HW.loop (fun m f u => ∃ k : Nat, k ≤ 2 ∧ m = 2 - k ∧ f 8 = I64 k ∧ f 7 = I64 2 ∧ f 6 = .slice (some ⟨b, 0, none⟩) 2 2 ∧ f 3 = I64 0 ∧ (∀ j, j < k → [p, q].getD j 0 = 0) ∧ u = h) 2
    ⟨0, Nat.zero_le _, rfl, e8, e7, e6, e3, fun j hj => by omega, rfl⟩ ?_
  clear e2 e3 e6 e7 e8
  rintro m f u ⟨k, hk, hm, f8, f7, f6, f3, hz, rfl⟩
  by_cases hlt : k < 2
  · have hc : cellH u b k = some (I64 ([p, q].getD k 0)) := cellH_map (f := I64) 0 hb hlt
    -- region 3
    repeat refine HW.seq ?_
    refine HW.region ?_
    refine HL.still (Runs.lss f8 f7 rfl) ?_
    intro u9 e9
    refine HL.nil ?_
    repeat refine HW.seq ?_
    refine HW.yes ?_ ?_
    exact e9.trans (congrArg Value.bool (decide_eq_true (by omega)))
    refine HW.skip ?_
    repeat refine HW.seq ?_
    refine HW.block ?_
    -- region 4
    repeat refine HW.seq ?_
    refine HW.region ?_
    refine HL.still (Runs.ixSl (o' := k) Tryd.underlying64 sz3 f6 f8 (by omega) (by omega) (by omega)) ?_
    intro u10 e10
    refine HL.still (Runs.load Tryd.underlying3 rfl e10 hc) ?_
    intro u11 e11
    refine HL.still (Runs.assign e11) ?_
    intro u5 e5
    refine HL.nil ?_
    by_cases hv : [p, q].getD k 0 = 0
    · skip
      -- region 5
      repeat refine HW.seq ?_
      refine HW.region ?_
      refine HL.still (Runs.move e5) ?_
      intro u12 e12
      refine HL.still (Runs.move f3) ?_
      intro u13 e13
      refine HL.still (Runs.neq e12 e13 (t := false) (by rw [hv]; rfl)) ?_
      intro u14 e14
      refine HL.nil ?_
      repeat refine HW.seq ?_
      refine HW.no ?_ ?_
      exact e14
      refine HW.skip ?_
      -- region 7
      repeat refine HW.seq ?_
      refine HW.region ?_
      refine HL.still (Runs.add f8 rfl (i64w (by omega))) ?_
      intro u16 e16
      refine HL.still (Runs.move e16) ?_
      intro u8 e8
      refine HL.nil ?_
      refine ⟨2 - (k + 1), by omega, k + 1, by omega, rfl, e8, f7, f6, f3, fun j hj => ?_, rfl⟩
      by_cases e : j = k
      · subst e; exact hv
      · exact hz j (by omega)
    · skip
      -- region 5
      repeat refine HW.seq ?_
      refine HW.region ?_
      refine HL.still (Runs.move e5) ?_
      intro u12 e12
      refine HL.still (Runs.move f3) ?_
      intro u13 e13
      refine HL.still (Runs.neq e12 e13 (t := true) (by simpa using hv)) ?_
      intro u14 e14
      refine HL.nil ?_
      repeat refine HW.seq ?_
      refine HW.yes ?_ ?_
      exact e14
      -- region 6
      repeat refine HW.seq ?_
      refine HW.region ?_
      refine HL.still (Runs.move e5) ?_
      intro u15 e15
      refine HL.still (Runs.assign e15) ?_
      intro u2 e2
      refine HL.nil ?_
      refine HW.ret ?_
      refine RT.one rfl e2 ⟨?_, rfl⟩
      unfold orI
      rcases k with _ | _ | k
      · have hv' : p ≠ 0 := hv
        rw [if_neg hv']; rfl
      · have h0 : p = 0 := hz 0 (by omega)
        rw [if_pos h0]; rfl
      · omega
  · have hk2 : k = 2 := by omega
    subst hk2
    -- region 3
    repeat refine HW.seq ?_
    refine HW.region ?_
    refine HL.still (Runs.lss f8 f7 rfl) ?_
    intro u9 e9
    refine HL.nil ?_
    repeat refine HW.seq ?_
    refine HW.no ?_ ?_
    exact e9.trans (congrArg Value.bool (decide_eq_false (by omega)))
    refine HW.exitHere ?_
    -- region 8
    repeat refine HW.seq ?_
    refine HW.region ?_
    refine HL.still (Runs.move f3) ?_
    intro u17 e17
    refine HL.still (Runs.assign e17) ?_
    intro u2 e2
    refine HL.nil ?_
    refine HW.ret ?_
    refine RT.one rfl e2 ⟨?_, rfl⟩
    unfold orI
    have h0 : p = 0 := hz 0 (by omega)
    have h1 : q = 0 := hz 1 (by omega)
    rw [if_pos h0, h1]
/-! ### Compare -/
theorem compare_ch (h : Heap) (a b : Str) (ha : a.length ≤ 10000) (hb : b.length ≤ 10000) : CH Tryd.prog 11 #[S8 a, S8 b] h fun v h' => v = I64 (compareO a b) ∧ Ext h h' := by
  refine CH.of_body Tryd.func11 rfl rfl rfl ?_
  intro f hf
  have p0 : f 0 = S8 a := by rw [hf]; exact fr0_at rfl
  have p1 : f 1 = S8 b := by rw [hf]; exact fr0_at rfl
  -- region 0
  repeat refine HW.seq ?_
  refine HW.region ?_
  refine HL.still (Runs.assign rfl) ?_
  intro u4 e4
  refine HL.nil ?_
  repeat refine HW.seq ?_
  refine HW.block ?_
  refine HW.loop (fun m f u => ∃ x y : Str, x.length ≤ 10000 ∧ y.length ≤ 10000 ∧ m = x.length ∧ f 0 = S8 x ∧ f 1 = S8 y ∧ compareO a b = compareO x y ∧ u = h) a.length
    ⟨a, b, ha, hb, rfl, p0, p1, rfl, rfl⟩ ?_
  clear e4 p0 p1
  rintro m f u ⟨x, y, hx, hy, hm, f0, f1, hinv, rfl⟩
  have hne : ∀ x : Str, x ≠ [] → (x == []) = false := fun x hx => beq_eq_false_iff_ne.2 hx
  by_cases hen : x = [] ∨ y = []
  · have hcn := compareO_nil hen
    have hbb : (!(x == []) && !(y == [])) = false := by
      rcases hen with e | e
      · rw [e]; rfl
      · rw [e]; cases (x == ([] : Str)) <;> rfl
    -- region 1
    repeat refine HW.seq ?_
    refine HW.region ?_
    refine HL.still (Runs.move f0) ?_
    intro u18 e18
    refine HL.still (Runs.neqS e18 rfl (ys := []) rfl) ?_
    intro u19 e19
    refine HL.still (Runs.move e19) ?_
    intro u20 e20
    refine HL.anyG rfl rfl e20 (fun hg => Runs.move f1) ?_
    intro u21 e21
    refine HL.anyG rfl rfl e20 (fun hg => Runs.neqS (e21.trans (if_pos hg)) rfl (ys := []) rfl) ?_
    intro u22 e22
    refine HL.still (Runs.pick e20 (and_pick e22)) ?_
    intro u23 e23
    refine HL.nil ?_
    refine HW.no (e23.trans (congrArg Value.bool hbb)) ?_
    refine HW.exitHere ?_
    -- region 14
    repeat refine HW.seq ?_
    refine HW.region ?_
    refine HL.still (Runs.move f0) ?_
    intro u83 e83
    refine HL.still (Runs.lenS rfl Tryd.underlying9 e83) ?_
    intro u84 e84
    refine HL.still (Runs.move f1) ?_
    intro u85 e85
    refine HL.still (Runs.lenS rfl Tryd.underlying9 e85) ?_
    intro u86 e86
    refine HL.one (HO.call Tryd.func31 bd31 nm31 (args2 e84 e86) rfl ((cmpI_ch u x.length y.length).mono ?_))
    rintro _ h2 ⟨rfl, hh2⟩
    intro u87 e87
    refine HL.still (Runs.assign e87) ?_
    intro u4 e4
    refine HL.nil ?_
    refine HW.ret ?_
    exact RT.one rfl e4 ⟨by rw [hinv, hcn], by rw [hh2]; exact Bel.refl _ _⟩
  have hx0 : x ≠ [] := fun e => hen (.inl e)
  have hy0 : y ≠ [] := fun e => hen (.inr e)
  have hbb : (!(x == []) && !(y == [])) = true := by rw [hne x hx0, hne y hy0]; rfl
  -- region 1
  repeat refine HW.seq ?_
  refine HW.region ?_
  refine HL.still (Runs.move f0) ?_
  intro u18 e18
  refine HL.still (Runs.neqS e18 rfl (ys := []) rfl) ?_
  intro u19 e19
  refine HL.still (Runs.move e19) ?_
  intro u20 e20
  refine HL.anyG rfl rfl e20 (fun hg => Runs.move f1) ?_
  intro u21 e21
  refine HL.anyG rfl rfl e20 (fun hg => Runs.neqS (e21.trans (if_pos hg)) rfl (ys := []) rfl) ?_
  intro u22 e22
  refine HL.still (Runs.pick e20 (and_pick e22)) ?_
  intro u23 e23
  refine HL.nil ?_
  refine HW.yes (e23.trans (congrArg Value.bool hbb)) ?_
  refine HW.skip ?_
  repeat refine HW.seq ?_
  refine HW.block ?_
  rw [compareO_ne hx0 hy0] at hinv
  have hpx := cut_parts x
  have hpy := cut_parts y
  have hqx := count_tail x
  have hqy := count_tail y
  have hlx := cut_len x
  have hly := cut_len y
  obtain ⟨⟨x1, x2, fx⟩, hcx⟩ : ∃ c, c = cutO x := ⟨_, rfl⟩
  obtain ⟨⟨y1, y2, fy⟩, hcy⟩ : ∃ c, c = cutO y := ⟨_, rfl⟩
  rw [← hcx] at hpx hqx hlx
  rw [← hcy] at hpy hqy hly
  have hlx2 : x2.length < x.length := hlx.2 hx0
  have hly1 : y2.length ≤ y.length := hly.1
  -- region 2
  repeat refine HW.seq ?_
  refine HW.region ?_
  refine HL.still (Runs.move f0) ?_
  intro u25 e25
  refine HL.one (HO.call Tryd.func29 bd29 nm29 (args2 e25 rfl) rfl (((show CH _ _ _ _ (fun v h' => v = .tuple #[S8 x1, S8 x2, .bool fx] ∧ h' = u) from (cut_ch u x (by omega)).mono fun _ _ q => ⟨by rw [q.1, ← hcx], q.2⟩)).mono ?_))
  rintro _ h2 ⟨rfl, hh2⟩
  intro u26 e26
  refine HL.still (Runs.move e26) ?_
  intro u24 e24
  refine HL.still (Runs.extr e24 rfl) ?_
  intro u27 e27
  refine HL.still (Runs.extr e24 rfl) ?_
  intro u28 e28
  refine HL.still (Runs.extr e24 rfl) ?_
  intro u29 e29
  refine HL.still (Runs.assign e27) ?_
  intro u5 e5
  refine HL.still (Runs.assign e28) ?_
  intro u6 e6
  refine HL.still (Runs.assign e29) ?_
  intro u7 e7
  refine HL.nil ?_
  rw [hh2]
  clear hh2
  -- region 3
  repeat refine HW.seq ?_
  refine HW.region ?_
  refine HL.still (Runs.move f1) ?_
  intro u31 e31
  refine HL.one (HO.call Tryd.func29 bd29 nm29 (args2 e31 rfl) rfl (((show CH _ _ _ _ (fun v h' => v = .tuple #[S8 y1, S8 y2, .bool fy] ∧ h' = u) from (cut_ch u y (by omega)).mono fun _ _ q => ⟨by rw [q.1, ← hcy], q.2⟩)).mono ?_))
  rintro _ h3 ⟨rfl, hh3⟩
  intro u32 e32
  refine HL.still (Runs.move e32) ?_
  intro u30 e30
  refine HL.still (Runs.extr e30 rfl) ?_
  intro u33 e33
  refine HL.still (Runs.extr e30 rfl) ?_
  intro u34 e34
  refine HL.still (Runs.extr e30 rfl) ?_
  intro u35 e35
  refine HL.still (Runs.assign e33) ?_
  intro u8 e8
  refine HL.still (Runs.assign e34) ?_
  intro u9 e9
  refine HL.still (Runs.assign e35) ?_
  intro u10 e10
  refine HL.nil ?_
  rw [hh3]
  clear hh3
  have g5 : u5 = S8 x1 := e5
  have g6 : u6 = S8 x2 := e6
  have g7 : u7 = .bool fx := e7
  have g8 : u8 = S8 y1 := e8
  have g9 : u9 = S8 y2 := e9
  have g10 : u10 = .bool fy := e10
  clear e5 e6 e7 e8 e9 e10
  -- region 4
  repeat refine HW.seq ?_
  refine HW.region ?_
  refine HL.still (Runs.move g5) ?_
  intro u36 e36
  refine HL.still (Runs.move g8) ?_
  intro u37 e37
  refine HL.one (HO.call Tryd.func30 bd30 nm30 (args2 e36 e37) rfl ((cmpS_ch u x1 y1).mono ?_))
  rintro _ h4 ⟨rfl, hh4⟩
  intro u38 e38
  refine HL.still (Runs.assign e38) ?_
  intro u11 e11
  refine HL.nil ?_
  rw [hh4]
  clear hh4
  rw [hpx, hpy] at hinv
  have g11 : u11 = I64 (cb x1 y1) := e11
  by_cases ho : cb x1 y1 = 0
  case neg =>
    -- region 5
    repeat refine HW.seq ?_
    refine HW.region ?_
    refine HL.still (Runs.move g11) ?_
    intro u39 e39
    refine HL.still (Runs.neq e39 rfl (t := true) (by simpa using ho)) ?_
    intro u40 e40
    refine HL.nil ?_
    repeat refine HW.seq ?_
    refine HW.yes ?_ ?_
    exact e40
    -- region 6
    repeat refine HW.seq ?_
    refine HW.region ?_
    refine HL.still (Runs.move g11) ?_
    intro u41 e41
    refine HL.still (Runs.assign e41) ?_
    intro u4 e4
    refine HL.nil ?_
    refine HW.ret ?_
    exact RT.one rfl e4 ⟨by rw [hinv, cmpP_cons, if_neg ho], Bel.refl _ _⟩
  -- region 5
  repeat refine HW.seq ?_
  refine HW.region ?_
  refine HL.still (Runs.move g11) ?_
  intro u39 e39
  refine HL.still (Runs.neq e39 rfl (t := false) (by rw [ho]; rfl)) ?_
  intro u40 e40
  refine HL.nil ?_
  repeat refine HW.seq ?_
  refine HW.no ?_ ?_
  exact e40
  refine HW.skip ?_
  -- region 7
  repeat refine HW.seq ?_
  refine HW.region ?_
  refine HL.still (Runs.move g7) ?_
  intro u42 e42
  refine HL.still (Runs.notb e42 (t := fx) (u := !fx) rfl) ?_
  intro u43 e43
  refine HL.still (Runs.move e43) ?_
  intro u44 e44
  refine HL.anyG rfl rfl e44 (fun hg => Runs.move g10) ?_
  intro u45 e45
  refine HL.anyG rfl rfl e44 (fun hg => Runs.notb (e45.trans (if_pos hg)) (t := fy) (u := !fy) rfl) ?_
  intro u46 e46
  refine HL.still (Runs.pick e44 (or_pick e46)) ?_
  intro u47 e47
  refine HL.nil ?_
  cases hf : (!fx || !fy) with
  | true =>
    have hor : (if fx = true then parts x2 else []) = [] ∨ (if fy = true then parts y2 else []) = [] := by
      cases fx with
      | false => exact .inl rfl
      | true =>
        cases fy with
        | false => exact .inr rfl
        | true => cases hf
    refine HW.yes (e47.trans (congrArg Value.bool hf)) ?_
    -- region 8
    repeat refine HW.seq ?_
    refine HW.region ?_
    refine HL.still (Runs.move f0) ?_
    intro u48 e48
    refine HL.one (HO.call Tryd.func32 bd32 nm32 (args2 e48 rfl) rfl ((count1_ch u x 47).mono ?_))
    rintro _ h5 ⟨rfl, hh5⟩
    intro u49 e49
    refine HL.still (Runs.move f1) ?_
    intro u50 e50
    refine HL.one (HO.call Tryd.func32 bd32 nm32 (args2 e50 rfl) rfl ((count1_ch h5 y 47).mono ?_))
    rintro _ h6 ⟨rfl, hh6⟩
    intro u51 e51
    refine HL.one (HO.call Tryd.func31 bd31 nm31 (args2 e49 e51) rfl ((cmpI_ch h6 (x.count 47 : Nat) (y.count 47 : Nat)).mono ?_))
    rintro _ h7 ⟨rfl, hh7⟩
    intro u52 e52
    refine HL.still (Runs.assign e52) ?_
    intro u4 e4
    refine HL.nil ?_
    refine HW.ret ?_
    exact RT.one rfl e4 ⟨by rw [hinv, cmpP_or _ _ _ _ hor, orI, if_pos ho, ← hqx, ← hqy], by rw [hh7, hh6, hh5]; exact Bel.refl _ _⟩
  | false =>
    have hfx : fx = true := by cases fx with
      | true => rfl
      | false => cases hf
    have hfy : fy = true := by
      rw [hfx] at hf
      cases fy with
      | true => rfl
      | false => cases hf
    rw [hfx, hfy, if_pos rfl, if_pos rfl, cmpP_cons, if_pos ho] at hinv
    refine HW.no (e47.trans (congrArg Value.bool hf)) ?_
    refine HW.skip ?_
    -- region 9
    repeat refine HW.seq ?_
    refine HW.region ?_
    refine HL.still (Runs.move g6) ?_
    intro u53 e53
    refine HL.still (Runs.move g9) ?_
    intro u54 e54
    refine HL.still (Runs.assign e53) ?_
    intro u0 e0
    refine HL.still (Runs.assign e54) ?_
    intro u1 e1
    refine HL.nil ?_
    clear g5 g6 g7 g8 g9 g10 g11 e11 f0 f1
    -- region 10
    repeat refine HW.seq ?_
    refine HW.region ?_
    refine HL.still (Runs.move e0) ?_
    intro u55 e55
    refine HL.still (Runs.eqS e55 rfl (ys := []) rfl) ?_
    intro u56 e56
    refine HL.still (Runs.move e56) ?_
    intro u57 e57
    refine HL.anyG rfl rfl e57 (fun hg => Runs.move e1) ?_
    intro u58 e58
    refine HL.anyG rfl rfl e57 (fun hg => Runs.eqS (e58.trans (if_pos hg)) rfl (ys := []) rfl) ?_
    intro u59 e59
    refine HL.still (Runs.pick e57 (or_pick e59)) ?_
    intro u60 e60
    refine HL.nil ?_
    by_cases hen2 : x2 = [] ∨ y2 = []
    · have hb2 : ((x2 == []) || (y2 == [])) = true := by
        rcases hen2 with e | e
        · rw [e]; rfl
        · rw [e]; simp
      refine HW.yes (e60.trans (congrArg Value.bool hb2)) ?_
      have kpx := cut_parts x2
      have kpy := cut_parts y2
      have kqx := count_tail x2
      have kqy := count_tail y2
      obtain ⟨⟨a1, a2, fa⟩, kcx⟩ : ∃ c, c = cutO x2 := ⟨_, rfl⟩
      obtain ⟨⟨b1, b2, fb⟩, kcy⟩ : ∃ c, c = cutO y2 := ⟨_, rfl⟩
      rw [← kcx] at kpx kqx
      rw [← kcy] at kpy kqy
      have hor : (if fa = true then parts a2 else []) = [] ∨ (if fb = true then parts b2 else []) = [] := by
        rcases hen2 with e | e
        · left
          rw [e, cutO_no (by simp)] at kcx
          cases kcx; rfl
        · right
          rw [e, cutO_no (by simp)] at kcy
          cases kcy; rfl
      -- region 11
      repeat refine HW.seq ?_
      refine HW.region ?_
      refine HL.still (Runs.move e0) ?_
      intro u62 e62
      refine HL.one (HO.call Tryd.func29 bd29 nm29 (args2 e62 rfl) rfl (((show CH _ _ _ _ (fun v h' => v = .tuple #[S8 a1, S8 a2, .bool fa] ∧ h' = u) from (cut_ch u x2 (by omega)).mono fun _ _ q => ⟨by rw [q.1, ← kcx], q.2⟩)).mono ?_))
      rintro _ h5 ⟨rfl, hh5⟩
      intro u63 e63
      refine HL.still (Runs.move e63) ?_
      intro u61 e61
      refine HL.still (Runs.extr e61 rfl) ?_
      intro u64 e64
      refine HL.still (Runs.extr e61 rfl) ?_
      intro u65 e65
      refine HL.still (Runs.extr e61 rfl) ?_
      intro u66 e66
      refine HL.still (Runs.assign e64) ?_
      intro u12 e12
      refine HL.still (Runs.assign e65) ?_
      intro u13 e13
      refine HL.still (Runs.assign e66) ?_
      intro u14 e14
      refine HL.nil ?_
      rw [hh5]
      clear hh5
      -- region 12
      repeat refine HW.seq ?_
      refine HW.region ?_
      refine HL.still (Runs.move e1) ?_
      intro u68 e68
      refine HL.one (HO.call Tryd.func29 bd29 nm29 (args2 e68 rfl) rfl (((show CH _ _ _ _ (fun v h' => v = .tuple #[S8 b1, S8 b2, .bool fb] ∧ h' = u) from (cut_ch u y2 (by omega)).mono fun _ _ q => ⟨by rw [q.1, ← kcy], q.2⟩)).mono ?_))
      rintro _ h6 ⟨rfl, hh6⟩
      intro u69 e69
      refine HL.still (Runs.move e69) ?_
      intro u67 e67
      refine HL.still (Runs.extr e67 rfl) ?_
      intro u70 e70
      refine HL.still (Runs.extr e67 rfl) ?_
      intro u71 e71
      refine HL.still (Runs.extr e67 rfl) ?_
      intro u72 e72
      refine HL.still (Runs.assign e70) ?_
      intro u15 e15
      refine HL.still (Runs.assign e71) ?_
      intro u16 e16
      refine HL.still (Runs.assign e72) ?_
      intro u17 e17
      refine HL.nil ?_
      rw [hh6]
      clear hh6
      have g12 : u12 = S8 a1 := e12
      have g15 : u15 = S8 b1 := e15
      -- region 13
      repeat refine HW.seq ?_
      refine HW.region ?_
      refine HL.still (Runs.move g12) ?_
      intro u73 e73
      refine HL.still (Runs.move g15) ?_
      intro u74 e74
      refine HL.one (HO.call Tryd.func30 bd30 nm30 (args2 e73 e74) rfl ((cmpS_ch u a1 b1).mono ?_))
      rintro _ h7 ⟨rfl, hh7⟩
      intro u75 e75
      refine HL.still (Runs.move e0) ?_
      intro u76 e76
      refine HL.one (HO.call Tryd.func32 bd32 nm32 (args2 e76 rfl) rfl ((count1_ch h7 x2 47).mono ?_))
      rintro _ h8 ⟨rfl, hh8⟩
      intro u77 e77
      refine HL.still (Runs.move e1) ?_
      intro u78 e78
      refine HL.one (HO.call Tryd.func32 bd32 nm32 (args2 e78 rfl) rfl ((count1_ch h8 y2 47).mono ?_))
      rintro _ h9 ⟨rfl, hh9⟩
      intro u79 e79
      refine HL.one (HO.call Tryd.func31 bd31 nm31 (args2 e77 e79) rfl ((cmpI_ch h9 (x2.count 47 : Nat) (y2.count 47 : Nat)).mono ?_))
      rintro _ h10 ⟨rfl, hh10⟩
      intro u80 e80
      refine HL.one (HO.int2 (cb a1 b1) (Go.Lib.compareInt (x2.count 47 : Nat) (y2.count 47 : Nat)) e75 e80 ?_)
      intro h11 w11
      intro u81 e81
      refine HL.one (HO.call Tryd.func33 bd33 nm33 (args1 e81) rfl ((or_ch h11 (cb a1 b1) (Go.Lib.compareInt (x2.count 47 : Nat) (y2.count 47 : Nat)) h10.size w11.new).mono ?_))
      rintro _ h12 ⟨rfl, hh12⟩
      intro u82 e82
      refine HL.still (Runs.assign e82) ?_
      intro u4 e4
      refine HL.nil ?_
      refine HW.ret ?_
      refine RT.one rfl e4 ⟨?_, ?_⟩
      · rw [hinv, kpx, kpy, cmpP_or _ _ _ _ hor, ← kqx, ← kqy]
      · have := w11.ext
        rw [hh10, hh9, hh8, hh7] at this
        rw [hh12]
        exact this
    · have hx2 : x2 ≠ [] := fun e => hen2 (.inl e)
      have hy2 : y2 ≠ [] := fun e => hen2 (.inr e)
      have hb2 : ((x2 == []) || (y2 == [])) = false := by rw [hne x2 hx2, hne y2 hy2]; rfl
      refine HW.no (e60.trans (congrArg Value.bool hb2)) ?_
      refine HW.skip ?_
      exact ⟨x2.length, by omega, x2, y2, by omega, by omega, rfl, e0, e1, by rw [hinv, compareO_ne hx2 hy2], rfl⟩
theorem cb_gt (x y : Str) : (!(Op.bytesLess x y || x == y)) = decide (cb x y > 0) := by
  rw [cb_lt]
  have := cb_eq x y
  by_cases h : x = y
  · have h0 := this.2 h
    rw [h0, h]
    simp
  · have h0 : cb x y ≠ 0 := fun q => h (this.1 q)
    rw [beq_eq_false_iff_ne.2 h, Bool.or_false, Bool.eq_iff_iff]
    simp
    omega
set_option maxRecDepth 10000 in
theorem rcompare_ch (h : Heap) (a b : Str) (ha : a.length ≤ 10000) (hb : b.length ≤ 10000) : CH Tryd.prog 12 #[S8 a, S8 b] h fun v h' => v = I64 (compareO a b) ∧ Ext h h' := by
  refine CH.of_body Tryd.func12 rfl rfl rfl ?_
  intro f hf
  have p0 : f 0 = S8 a := by rw [hf]; exact fr0_at rfl
  have p1 : f 1 = S8 b := by rw [hf]; exact fr0_at rfl
  have hpa := parts_le a
  have hpb := parts_le b
  have hta : (tparts a).length ≤ 10001 := by unfold tparts; split; exact Nat.zero_le _; omega
  have htb : (tparts b).length ≤ 10001 := by unfold tparts; split; exact Nat.zero_le _; omega
  -- region 0
  repeat refine HW.seq ?_
  refine HW.region ?_
  refine HL.still (Runs.assign rfl) ?_
  intro u4 e4
  refine HL.nil ?_
  -- region 1
  repeat refine HW.seq ?_
  refine HW.region ?_
  refine HL.still (Runs.assign rfl) ?_
  intro u5 e5
  refine HL.nil ?_
  -- region 2
  repeat refine HW.seq ?_
  refine HW.region ?_
  refine HL.still (Runs.assign rfl) ?_
  intro u6 e6
  refine HL.nil ?_
  -- region 3
  repeat refine HW.seq ?_
  refine HW.region ?_
  refine HL.still (Runs.move p0) ?_
  intro u8 e8
  refine HL.still (Runs.neqS e8 rfl (ys := []) rfl) ?_
  intro u9 e9
  refine HL.nil ?_
  refine HW.mono (N := fun f' g => Ext h g ∧ f' 0 = S8 a ∧ f' 1 = S8 b ∧ f' 6 = .slice none 0 0 ∧ ∃ A c, f' 5 = .slice A (tparts a).length c ∧ Sts g A (tparts a)) ?_ ?_ (fun _ _ _ h => h) (fun _ _ h => h)
  · by_cases he : a = []
    · refine HW.no (e9.trans (congrArg Value.bool (show (!(a == [])) = false by rw [he]; rfl))) ?_
      refine HW.skip ?_
      have ht : tparts a = [] := by rw [he]; rfl
      exact ⟨Bel.refl _ _, p0, p1, e6, none, 0, by rw [ht]; exact e5, .inl ht⟩
    · have ht : tparts a = parts a := by unfold tparts; rw [if_neg he]
      refine HW.yes (e9.trans (congrArg Value.bool (show (!(a == [])) = true by rw [beq_eq_false_iff_ne.2 he]; rfl))) ?_
      -- region 4
      repeat refine HW.seq ?_
      refine HW.region ?_
      refine HL.still (Runs.move p0) ?_
      intro u10 e10
      refine HL.one (HO.call Tryd.func26 bd26 nm26 (args1 e10) rfl ((rcut_ch h a ha).mono ?_))
      rintro _ h1 ⟨A, c, rfl, hR, X1⟩
      intro u11 e11
      refine HL.still (Runs.assign e11) ?_
      intro u5 e5
      refine HL.nil ?_
      exact ⟨X1, p0, p1, e6, A, c, by rw [ht]; exact e5, by rw [ht]; exact hR.byt⟩
  clear e4 e5 e6 e9 p0 p1
  rintro f g ⟨XG, f0, f1, f6, A, c, f5, SA⟩
  -- region 5
  repeat refine HW.seq ?_
  refine HW.region ?_
  refine HL.still (Runs.move f1) ?_
  intro u12 e12
  refine HL.still (Runs.neqS e12 rfl (ys := []) rfl) ?_
  intro u13 e13
  refine HL.nil ?_
  refine HW.mono (N := fun f' g => Ext h g ∧ ∃ A c A' c', f' 5 = .slice A (tparts a).length c ∧ Sts g A (tparts a) ∧ f' 6 = .slice A' (tparts b).length c' ∧ Sts g A' (tparts b)) ?_ ?_ (fun _ _ _ h => h) (fun _ _ h => h)
  · by_cases he : b = []
    · refine HW.no (e13.trans (congrArg Value.bool (show (!(b == [])) = false by rw [he]; rfl))) ?_
      refine HW.skip ?_
      have ht : tparts b = [] := by rw [he]; rfl
      exact ⟨XG, A, c, none, 0, f5, SA, by rw [ht]; exact f6, .inl ht⟩
    · have ht : tparts b = parts b := by unfold tparts; rw [if_neg he]
      refine HW.yes (e13.trans (congrArg Value.bool (show (!(b == [])) = true by rw [beq_eq_false_iff_ne.2 he]; rfl))) ?_
      -- region 6
      repeat refine HW.seq ?_
      refine HW.region ?_
      refine HL.still (Runs.move f1) ?_
      intro u14 e14
      refine HL.one (HO.call Tryd.func26 bd26 nm26 (args1 e14) rfl ((rcut_ch g b hb).mono ?_))
      rintro _ h1 ⟨A', c', rfl, hR, X1⟩
      intro u15 e15
      refine HL.still (Runs.assign e15) ?_
      intro u6 e6
      refine HL.nil ?_
      exact ⟨XG.ext X1 (Nat.le_refl _), A, c, A', c', f5, SA.ext X1, by rw [ht]; exact e6, by rw [ht]; exact hR.byt⟩
  clear e13 f0 f1 f5 f6 SA XG
  rintro f g ⟨XG, A, c, A', c', f5, SA, f6, SB⟩
  unfold compareO
  obtain ⟨l, hl⟩ : ∃ l, l = tparts a := ⟨_, rfl⟩
  obtain ⟨r, hr⟩ : ∃ r, r = tparts b := ⟨_, rfl⟩
  rw [← hl] at f5 SA hta ⊢
  rw [← hr] at f6 SB htb ⊢
  -- region 7
  repeat refine HW.seq ?_
  refine HW.region ?_
  refine HL.still (Runs.assign rfl) ?_
  intro u7 e7
  refine HL.nil ?_
  repeat refine HW.seq ?_
  refine HW.block ?_
  refine HW.loop (fun m f u => ∃ k : Nat, k ≤ l.length ∧ k ≤ r.length ∧ m = l.length - k ∧ f 7 = I64 k ∧ f 5 = .slice A l.length c ∧ f 6 = .slice A' r.length c' ∧ cmpP l r = cmpP (l.drop k) (r.drop k) ∧ u = g) l.length
    ⟨0, Nat.zero_le _, Nat.zero_le _, rfl, e7, f5, f6, rfl, rfl⟩ ?_
  clear e7 f5 f6
  rintro m f u ⟨k, hkl, hkr, hm, f7, f5, f6, hinv, rfl⟩
  by_cases hlt : k < l.length ∧ k < r.length
  · obtain ⟨sb, so, hA, hc⟩ := SA.at hlt.1
    obtain ⟨tb, to, hB, hd⟩ := SB.at hlt.2
    have f5' := f5
    have f6' := f6
    rw [hA] at f5'
    rw [hB] at f6'
    have hst := cmpP_drop hlt.1 hlt.2
    -- region 8
    repeat refine HW.seq ?_
    refine HW.region ?_
    refine HL.still (Runs.move f7) ?_
    intro u16 e16
    refine HL.still (Runs.move f5') ?_
    intro u17 e17
    refine HL.still (Runs.lenSl rfl Tryd.underlying33 e17) ?_
    intro u18 e18
    refine HL.still (Runs.lss e16 e18 (t := true) (decide_eq_true (by omega))) ?_
    intro u19 e19
    refine HL.still (Runs.move e19) ?_
    intro u20 e20
    refine HL.stillG rfl rfl e20 (Runs.move f7) ?_
    intro u21 e21
    refine HL.stillG rfl rfl e20 (Runs.move f6') ?_
    intro u22 e22
    refine HL.stillG rfl rfl e20 (Runs.lenSl rfl Tryd.underlying33 e22) ?_
    intro u23 e23
    refine HL.stillG rfl rfl e20 (Runs.lss e21 e23 (t := true) (decide_eq_true (by omega))) ?_
    intro u24 e24
    refine HL.still (Runs.pick e20 e24) ?_
    intro u25 e25
    refine HL.nil ?_
    repeat refine HW.seq ?_
    refine HW.yes ?_ ?_
    exact e25
    refine HW.skip ?_
    repeat refine HW.seq ?_
    refine HW.block ?_
    by_cases hlo : cb (l.getD k []) (r.getD k []) < 0
    · skip
      -- region 10
      repeat refine HW.seq ?_
      refine HW.draw mixed (by kernel_rfl) ?_
      refine HS.still (Runs.move f5') ?_
      intro u28 e28
      refine HS.still (Runs.move f7) ?_
      intro u29 e29
      refine HS.still (Runs.ixSl (o' := so + k) Tryd.underlying33 sz9 e28 e29 (by omega) (by omega) (by omega)) ?_
      intro u30 e30
      refine HS.still (Runs.load Tryd.underlying9 rfl e30 hc) ?_
      intro u31 e31
      refine HS.still (Runs.move f6') ?_
      intro u32 e32
      refine HS.still (Runs.move f7) ?_
      intro u33 e33
      refine HS.still (Runs.ixSl (o' := to + k) Tryd.underlying33 sz9 e32 e33 (by omega) (by omega) (by omega)) ?_
      intro u34 e34
      refine HS.still (Runs.load Tryd.underlying9 rfl e34 hd) ?_
      intro u35 e35
      refine HS.still (Runs.lssS e31 e35 (t := true) (by rw [cb_lt]; exact decide_eq_true hlo)) ?_
      intro u36 e36
      refine HS.nil ?_
      repeat refine HW.seq ?_
      refine HW.yes ?_ ?_
      exact e36
      -- region 11
      repeat refine HW.seq ?_
      refine HW.region ?_
      refine HL.still (Runs.assign rfl) ?_
      intro u4 e4
      refine HL.nil ?_
      refine HW.ret ?_
      have hv : cb (l.getD k []) (r.getD k []) = -1 := by have := cb_val (l.getD k []) (r.getD k []); omega
      exact RT.one rfl e4 ⟨by rw [hinv, hst, if_neg (by omega), hv], XG⟩
    · skip
      -- region 10
      repeat refine HW.seq ?_
      refine HW.draw mixed (by kernel_rfl) ?_
      refine HS.still (Runs.move f5') ?_
      intro u28 e28
      refine HS.still (Runs.move f7) ?_
      intro u29 e29
      refine HS.still (Runs.ixSl (o' := so + k) Tryd.underlying33 sz9 e28 e29 (by omega) (by omega) (by omega)) ?_
      intro u30 e30
      refine HS.still (Runs.load Tryd.underlying9 rfl e30 hc) ?_
      intro u31 e31
      refine HS.still (Runs.move f6') ?_
      intro u32 e32
      refine HS.still (Runs.move f7) ?_
      intro u33 e33
      refine HS.still (Runs.ixSl (o' := to + k) Tryd.underlying33 sz9 e32 e33 (by omega) (by omega) (by omega)) ?_
      intro u34 e34
      refine HS.still (Runs.load Tryd.underlying9 rfl e34 hd) ?_
      intro u35 e35
      refine HS.still (Runs.lssS e31 e35 (t := false) (by rw [cb_lt]; exact decide_eq_false hlo)) ?_
      intro u36 e36
      refine HS.nil ?_
      repeat refine HW.seq ?_
      refine HW.no ?_ ?_
      exact e36
      refine HW.skip ?_
      by_cases hgt : cb (l.getD k []) (r.getD k []) > 0
      · skip
        -- region 12
        repeat refine HW.seq ?_
        refine HW.draw mixed (by kernel_rfl) ?_
        refine HS.still (Runs.move f5') ?_
        intro u37 e37
        refine HS.still (Runs.move f7) ?_
        intro u38 e38
        refine HS.still (Runs.ixSl (o' := so + k) Tryd.underlying33 sz9 e37 e38 (by omega) (by omega) (by omega)) ?_
        intro u39 e39
        refine HS.still (Runs.load Tryd.underlying9 rfl e39 hc) ?_
        intro u40 e40
        refine HS.still (Runs.move f6') ?_
        intro u41 e41
        refine HS.still (Runs.move f7) ?_
        intro u42 e42
        refine HS.still (Runs.ixSl (o' := to + k) Tryd.underlying33 sz9 e41 e42 (by omega) (by omega) (by omega)) ?_
        intro u43 e43
        refine HS.still (Runs.load Tryd.underlying9 rfl e43 hd) ?_
        intro u44 e44
        refine HS.still (Runs.gtrS e40 e44 (t := true) (by rw [cb_gt]; exact decide_eq_true hgt)) ?_
        intro u45 e45
        refine HS.nil ?_
        repeat refine HW.seq ?_
        refine HW.yes ?_ ?_
        exact e45
        -- region 13
        repeat refine HW.seq ?_
        refine HW.region ?_
        refine HL.still (Runs.assign rfl) ?_
        intro u4 e4
        refine HL.nil ?_
        refine HW.ret ?_
        have hv : cb (l.getD k []) (r.getD k []) = 1 := by have := cb_val (l.getD k []) (r.getD k []); omega
        exact RT.one rfl e4 ⟨by rw [hinv, hst, if_neg (by omega), hv], XG⟩
      · skip
        -- region 12
        repeat refine HW.seq ?_
        refine HW.draw mixed (by kernel_rfl) ?_
        refine HS.still (Runs.move f5') ?_
        intro u37 e37
        refine HS.still (Runs.move f7) ?_
        intro u38 e38
        refine HS.still (Runs.ixSl (o' := so + k) Tryd.underlying33 sz9 e37 e38 (by omega) (by omega) (by omega)) ?_
        intro u39 e39
        refine HS.still (Runs.load Tryd.underlying9 rfl e39 hc) ?_
        intro u40 e40
        refine HS.still (Runs.move f6') ?_
        intro u41 e41
        refine HS.still (Runs.move f7) ?_
        intro u42 e42
        refine HS.still (Runs.ixSl (o' := to + k) Tryd.underlying33 sz9 e41 e42 (by omega) (by omega) (by omega)) ?_
        intro u43 e43
        refine HS.still (Runs.load Tryd.underlying9 rfl e43 hd) ?_
        intro u44 e44
        refine HS.still (Runs.gtrS e40 e44 (t := false) (by rw [cb_gt]; exact decide_eq_false hgt)) ?_
        intro u45 e45
        refine HS.nil ?_
        repeat refine HW.seq ?_
        refine HW.no ?_ ?_
        exact e45
        refine HW.skip ?_
        -- region 9
        repeat refine HW.seq ?_
        refine HW.region ?_
        refine HL.still (Runs.move f7) ?_
        intro u26 e26
        refine HL.still (Runs.add e26 rfl (i64w (by omega))) ?_
        intro u27 e27
        refine HL.still (Runs.assign e27) ?_
        intro u7 e7
        refine HL.nil ?_
        exact ⟨l.length - (k + 1), by omega, k + 1, by omega, by omega, rfl, e7, f5, f6, by rw [hinv, hst, if_pos (by omega)], rfl⟩
  · have hend := cmpP_end hkl hkr hlt
    rw [hend] at hinv
    have hbb : (decide (k < l.length) && decide (k < r.length)) = false := by
      rw [Bool.and_eq_false_iff, decide_eq_false_iff_not, decide_eq_false_iff_not]
      omega
    -- region 8
    repeat refine HW.seq ?_
    refine HW.region ?_
    refine HL.still (Runs.move f7) ?_
    intro u16 e16
    refine HL.still (Runs.move f5) ?_
    intro u17 e17
    refine HL.still (Runs.lenSl rfl Tryd.underlying33 e17) ?_
    intro u18 e18
    refine HL.still (Runs.lss e16 e18 (t := decide (k < l.length)) (decide_eq_decide.2 (by omega))) ?_
    intro u19 e19
    refine HL.still (Runs.move e19) ?_
    intro u20 e20
    refine HL.anyG rfl rfl e20 (fun hg => Runs.move f7) ?_
    intro u21 e21
    refine HL.anyG rfl rfl e20 (fun hg => Runs.move f6) ?_
    intro u22 e22
    refine HL.anyG rfl rfl e20 (fun hg => Runs.lenSl rfl Tryd.underlying33 (e22.trans (if_pos hg))) ?_
    intro u23 e23
    refine HL.anyG rfl rfl e20 (fun hg => Runs.lss (e21.trans (if_pos hg)) (e23.trans (if_pos hg)) (t := decide (k < r.length)) (decide_eq_decide.2 (by omega))) ?_
    intro u24 e24
    refine HL.still (Runs.pick e20 (and_pick e24)) ?_
    intro u25 e25
    refine HL.nil ?_
    refine HW.no (e25.trans (congrArg Value.bool hbb)) ?_
    refine HW.exitHere ?_
    by_cases q1 : l.length < r.length
    · skip
      -- region 14
      repeat refine HW.seq ?_
      refine HW.region ?_
      refine HL.still (Runs.move f5) ?_
      intro u46 e46
      refine HL.still (Runs.lenSl rfl Tryd.underlying33 e46) ?_
      intro u47 e47
      refine HL.still (Runs.move f6) ?_
      intro u48 e48
      refine HL.still (Runs.lenSl rfl Tryd.underlying33 e48) ?_
      intro u49 e49
      refine HL.still (Runs.lss e47 e49 (t := true) (decide_eq_true (by omega))) ?_
      intro u50 e50
      refine HL.nil ?_
      repeat refine HW.seq ?_
      refine HW.yes ?_ ?_
      exact e50
      -- region 15
      repeat refine HW.seq ?_
      refine HW.region ?_
      refine HL.still (Runs.assign rfl) ?_
      intro u4 e4
      refine HL.nil ?_
      refine HW.ret ?_
      exact RT.one rfl e4 ⟨by rw [hinv, if_pos q1], XG⟩
    · skip
      -- region 14
      repeat refine HW.seq ?_
      refine HW.region ?_
      refine HL.still (Runs.move f5) ?_
      intro u46 e46
      refine HL.still (Runs.lenSl rfl Tryd.underlying33 e46) ?_
      intro u47 e47
      refine HL.still (Runs.move f6) ?_
      intro u48 e48
      refine HL.still (Runs.lenSl rfl Tryd.underlying33 e48) ?_
      intro u49 e49
      refine HL.still (Runs.lss e47 e49 (t := false) (decide_eq_false (by omega))) ?_
      intro u50 e50
      refine HL.nil ?_
      repeat refine HW.seq ?_
      refine HW.no ?_ ?_
      exact e50
      refine HW.skip ?_
      by_cases q2 : l.length > r.length
      · skip
        -- region 16
        repeat refine HW.seq ?_
        refine HW.region ?_
        refine HL.still (Runs.move f5) ?_
        intro u51 e51
        refine HL.still (Runs.lenSl rfl Tryd.underlying33 e51) ?_
        intro u52 e52
        refine HL.still (Runs.move f6) ?_
        intro u53 e53
        refine HL.still (Runs.lenSl rfl Tryd.underlying33 e53) ?_
        intro u54 e54
        refine HL.still (Runs.gtr e52 e54 (t := true) (decide_eq_true (by omega))) ?_
        intro u55 e55
        refine HL.nil ?_
        repeat refine HW.seq ?_
        refine HW.yes ?_ ?_
        exact e55
        -- region 17
        repeat refine HW.seq ?_
        refine HW.region ?_
        refine HL.still (Runs.assign rfl) ?_
        intro u4 e4
        refine HL.nil ?_
        refine HW.ret ?_
        exact RT.one rfl e4 ⟨by rw [hinv, if_neg q1, if_pos q2], XG⟩
      · skip
        -- region 16
        repeat refine HW.seq ?_
        refine HW.region ?_
        refine HL.still (Runs.move f5) ?_
        intro u51 e51
        refine HL.still (Runs.lenSl rfl Tryd.underlying33 e51) ?_
        intro u52 e52
        refine HL.still (Runs.move f6) ?_
        intro u53 e53
        refine HL.still (Runs.lenSl rfl Tryd.underlying33 e53) ?_
        intro u54 e54
        refine HL.still (Runs.gtr e52 e54 (t := false) (decide_eq_false (by omega))) ?_
        intro u55 e55
        refine HL.nil ?_
        repeat refine HW.seq ?_
        refine HW.no ?_ ?_
        exact e55
        refine HW.skip ?_
        -- region 18
        repeat refine HW.seq ?_
        refine HW.region ?_
        refine HL.still (Runs.assign rfl) ?_
        intro u4 e4
        refine HL.nil ?_
        refine HW.ret ?_
        exact RT.one rfl e4 ⟨by rw [hinv, if_neg q1, if_neg q2], XG⟩
end Go.Proofs.YtfnippeemboljaaDoor
