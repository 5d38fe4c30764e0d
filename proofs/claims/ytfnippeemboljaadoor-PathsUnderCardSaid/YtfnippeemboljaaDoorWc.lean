/- slices.DeleteFunc at strings; paths.split, below. -/
import Derived.Test.YtfnippeemboljaaDoorWb
namespace Go.Proofs.YtfnippeemboljaaDoor
set_option linter.unnecessarySimpa false
set_option linter.unusedSimpArgs false
set_option linter.unusedVariables false
open Go.RowKit
theorem getD_of {xs : List Str} {i : Nat} (h : i < xs.length) : xs[i]? = some (xs.getD i []) := by
  rw [List.getElem?_eq_getElem h]
  simp [h]
theorem take_getD (xs : List Str) {i : Nat} (h : i < xs.length) : xs.take (i + 1) = xs.take i ++ [xs.getD i []] := by
  rw [List.take_add_one, getD_of h]
  rfl
/-- What is kept of the first j. -/
def kept (p : Str → Bool) (xs : List Str) (j : Nat) : List Str := (xs.take j).filter fun x => !p x
theorem kept_no {p : Str → Bool} {xs : List Str} {j : Nat} (h : j < xs.length) (hp : p (xs.getD j []) = true) : kept p xs (j + 1) = kept p xs j := by
  unfold kept
  rw [take_getD xs h, List.filter_append]
  have : [xs.getD j []].filter (fun x => !p x) = [] := by rw [List.filter_cons, hp]; rfl
  rw [this, List.append_nil]
theorem kept_yes {p : Str → Bool} {xs : List Str} {j : Nat} (h : j < xs.length) (hp : p (xs.getD j []) = false) : kept p xs (j + 1) = kept p xs j ++ [xs.getD j []] := by
  unfold kept
  rw [take_getD xs h, List.filter_append]
  have : [xs.getD j []].filter (fun x => !p x) = [xs.getD j []] := by rw [List.filter_cons, hp]; rfl
  rw [this]
theorem kept_le (p : Str → Bool) (xs : List Str) (j : Nat) (h : j ≤ xs.length) : (kept p xs j).length ≤ j := by
  unfold kept
  refine Nat.le_trans (List.length_filter_le _ _) ?_
  rw [List.length_take]
  omega
theorem kept_full {p : Str → Bool} {xs : List Str} {i : Nat} (hi : i ≤ xs.length) (h : ∀ j, j < i → p (xs.getD j []) = false) : kept p xs i = xs.take i := by
  induction i with
  | zero => rfl
  | succ i ih => rw [kept_yes (by omega) (h i (by omega)), ih (by omega) (fun j hj => h j (by omega)), take_getD xs (by omega)]
/-- slices.DeleteFunc, at a slice that is a block of its own. -/
theorem delf_ch (h : Heap) (xs : List Str) (n b k : Nat) (p : Str → Bool) (hp : Pred k p) (hn : n = xs.length) (hb : h[b]? = some (.cells (xs.map S8).toArray 9 (0, 0))) (hlen : xs.length < 4611686018427387904) :
    CH Tryd.prog 21 #[.slice (some ⟨b, 0, none⟩) n n, .func (.func k) #[] #[]] h fun v h' => v = .slice (some ⟨b, 0, none⟩) (xs.filter fun x => !p x).length xs.length ∧ Sts h' (some ⟨b, 0, none⟩) (xs.filter fun x => !p x) ∧ ExB b h h' := by
  subst hn
  have hp' := hp
  obtain ⟨⟨F, hF, hFb, hFn⟩, hpc⟩ := hp
  refine CH.of_body Tryd.func21 rfl rfl rfl ?_
  intro f hf
  have p0 : f 0 = .slice (some ⟨b, 0, none⟩) xs.length xs.length := by rw [hf]; exact fr0_at rfl
  have p1 : f 1 = .func (.func k) #[] #[] := by rw [hf]; exact fr0_at rfl
  have hfull : kept p xs xs.length = xs.filter fun x => !p x := by unfold kept; rw [List.take_of_length_le (Nat.le_refl _)]
  have hcell : ∀ j, j < xs.length → cellH h b j = some (S8 (xs.getD j [])) := fun j hj => cellH_map (f := S8) [] hb hj
  -- region 0
  repeat refine HW.seq ?_
  refine HW.region ?_
  refine HL.still (Runs.assign rfl) ?_
  intro u4 e4
  refine HL.nil ?_
  have hsrc : Sts h (some ⟨b, 0, none⟩) xs := row_block hb
  -- region 1
  repeat refine HW.seq ?_
  refine HW.region ?_
  refine HL.still (Runs.move p0) ?_
  intro u8 e8
  refine HL.still (Runs.move p1) ?_
  intro u9 e9
  refine HL.one (HO.call Tryd.func41 bd41 nm41 (args2 e8 e9) rfl (((show CH _ _ _ _ (fun v h' => (∃ r : Int, v = I64 r ∧ ((r = -1 ∧ ∀ i, i < xs.length → p (xs.getD i []) = false) ∨ ∃ i : Nat, i < xs.length ∧ r = i ∧ p (xs.getD i []) = true ∧ ∀ j, j < i → p (xs.getD j []) = false)) ∧ h' = h) from (idxf_ch h xs xs.length _ xs.length k p hp' rfl hsrc hlen).mono fun v h' q => ⟨by rcases q.1 with ⟨q1, q2⟩ | ⟨i, q1, q2, q3⟩; exact ⟨-1, q1, .inl ⟨rfl, q2⟩⟩; exact ⟨i, q2, .inr ⟨i, q1, rfl, q3⟩⟩, q.2⟩)).mono ?_))
  rintro _ h1 ⟨⟨r, rfl, hr⟩, hh1⟩
  intro u10 e10
  refine HL.still (Runs.assign e10) ?_
  intro u5 e5
  refine HL.nil ?_
  rw [hh1]
  clear hh1
  rcases hr with ⟨rfl, hall⟩ | ⟨i0, hi0, rfl, hpi, hall⟩
  · skip
    -- region 2
    repeat refine HW.seq ?_
    refine HW.region ?_
    refine HL.still (Runs.move e5) ?_
    intro u11 e11
    refine HL.still (Runs.eql e11 rfl (t := true) rfl) ?_
    intro u12 e12
    refine HL.nil ?_
    repeat refine HW.seq ?_
    refine HW.yes ?_ ?_
    exact e12
    -- region 3
    repeat refine HW.seq ?_
    refine HW.region ?_
    refine HL.still (Runs.move p0) ?_
    intro u13 e13
    refine HL.still (Runs.assign e13) ?_
    intro u4 e4
    refine HL.nil ?_
    have hk := kept_full (Nat.le_refl _) hall
    rw [hfull, List.take_of_length_le (Nat.le_refl _)] at hk
    refine HW.ret ?_
    exact RT.one rfl e4 ⟨by rw [hk], by rw [hk]; exact hsrc, ⟨Nat.le_refl _, fun _ _ _ => rfl⟩⟩
  · skip
    -- region 2
    repeat refine HW.seq ?_
    refine HW.region ?_
    refine HL.still (Runs.move e5) ?_
    intro u11 e11
    refine HL.still (Runs.eql e11 rfl (t := false) (by rw [beq_eq_false_iff_ne]; omega)) ?_
    intro u12 e12
    refine HL.nil ?_
    repeat refine HW.seq ?_
    refine HW.no ?_ ?_
    exact e12
    refine HW.skip ?_
    -- region 4
    repeat refine HW.seq ?_
    refine HW.region ?_
    refine HL.still (Runs.move e5) ?_
    intro u14 e14
    refine HL.still (Runs.add e14 rfl (c := ((i0 + 1 : Nat) : Int)) (by rw [i64w (by omega)]; omega)) ?_
    intro u15 e15
    refine HL.still (Runs.assign e15) ?_
    intro u6 e6
    refine HL.nil ?_
    have hk0 : kept p xs (i0 + 1) = xs.take i0 := by rw [kept_no hi0 hpi]; exact kept_full (by omega) hall
    have e5' : u5 = I64 ((kept p xs (i0 + 1)).length : Int) := by rw [hk0, List.length_take, Nat.min_eq_left (by omega)]; exact e5
    repeat refine HW.seq ?_
    refine HW.block ?_
    refine HW.loop (fun m f u => ∃ (j : Nat) (cur : List Value), j ≤ xs.length ∧ m = xs.length - j ∧ f 6 = I64 j ∧ f 5 = I64 ((kept p xs j).length : Int) ∧ f 0 = .slice (some ⟨b, 0, none⟩) xs.length xs.length ∧ f 1 = .func (.func k) #[] #[] ∧ (kept p xs j).length < j ∧ cur.length = xs.length ∧ cur.take (kept p xs j).length = (kept p xs j).map S8 ∧ cur.drop j = (xs.map S8).drop j ∧ u[b]? = some (.cells cur.toArray 9 (0, 0)) ∧ ExB b h u) (xs.length - (i0 + 1))
      ⟨i0 + 1, xs.map S8, by omega, rfl, e6, e5', p0, p1, by rw [hk0, List.length_take]; omega, by simp, by rw [hk0, List.length_take, Nat.min_eq_left (by omega), List.map_take], rfl, hb, ⟨Nat.le_refl _, fun _ _ _ => rfl⟩⟩ ?_
    clear e4 e5 e5' e6
    rintro m f u ⟨j, cur, hj, hm, f6, f5, f0, f1, hkl, hcl, htk, hdr, hub, hE⟩
    by_cases hlt : j < xs.length
    · have hcj : cellH u b j = some (S8 (xs.getD j [])) := by
        rw [cellH_of hub]
        have h1 := congrArg (·[0]?) hdr
        simp only [List.getElem?_drop, Nat.add_zero, List.getElem?_map] at h1
        rw [getD_of hlt] at h1
        simpa using h1
      have hcj' : cellH u b (0 + j) = some (S8 (xs.getD j [])) := by rw [Nat.zero_add]; exact hcj
      -- region 5
      repeat refine HW.seq ?_
      refine HW.region ?_
      refine HL.still (Runs.move f6) ?_
      intro u16 e16
      refine HL.still (Runs.move f0) ?_
      intro u17 e17
      refine HL.still (Runs.lenSl rfl Tryd.underlying33 e17) ?_
      intro u18 e18
      refine HL.still (Runs.lss e16 e18 rfl) ?_
      intro u19 e19
      refine HL.nil ?_
      repeat refine HW.seq ?_
      refine HW.yes ?_ ?_
      exact e19.trans (congrArg Value.bool (decide_eq_true (by omega)))
      refine HW.skip ?_
      repeat refine HW.seq ?_
      refine HW.block ?_
      -- region 7
      repeat refine HW.seq ?_
      refine HW.region ?_
      refine HL.still (Runs.move f0) ?_
      intro u22 e22
      refine HL.still (Runs.move f6) ?_
      intro u23 e23
      refine HL.still (Runs.ixSl (o' := j) Tryd.underlying33 sz9 e22 e23 (by omega) (by omega) (by omega)) ?_
      intro u24 e24
      refine HL.still (Runs.load Tryd.underlying9 rfl e24 hcj) ?_
      intro u25 e25
      refine HL.still (Runs.assign e25) ?_
      intro u7 e7
      refine HL.nil ?_
      -- region 8
      repeat refine HW.seq ?_
      refine HW.region ?_
      refine HL.still (Runs.move f1) ?_
      intro u26 e26
      refine HL.still (Runs.move e7) ?_
      intro u27 e27
      refine HL.one (HO.callV hF hFb hFn (args1 e27) e26 ((hpc u (xs.getD j [])).mono ?_))
      rintro _ u2 ⟨rfl, hu2⟩
      intro u28 e28
      refine HL.still (Runs.notb e28 (u := !(p (xs.getD j []))) rfl) ?_
      intro u29 e29
      refine HL.nil ?_
      rw [hu2]
      clear hu2
      cases hz : p (xs.getD j []) with
      | true =>
        rw [hz] at e29
        repeat refine HW.seq ?_
        refine HW.no ?_ ?_
        exact e29
        refine HW.skip ?_
        -- region 6
        repeat refine HW.seq ?_
        refine HW.region ?_
        refine HL.still (Runs.move f6) ?_
        intro u20 e20
        refine HL.still (Runs.add e20 rfl (i64w (by omega))) ?_
        intro u21 e21
        refine HL.still (Runs.assign e21) ?_
        intro u6 e6
        refine HL.nil ?_
        have hk1 := kept_no hlt hz
        refine ⟨xs.length - (j + 1), by omega, j + 1, cur, by omega, rfl, e6, by rw [hk1]; exact f5, f0, f1, by rw [hk1]; omega, hcl, by rw [hk1]; exact htk, ?_, hub, hE⟩
        rw [← List.drop_drop, ← List.drop_drop, hdr]
      | false =>
        rw [hz] at e29
        repeat refine HW.seq ?_
        refine HW.yes ?_ ?_
        exact e29
        -- region 9
        repeat refine HW.seq ?_
        refine HW.region ?_
        refine HL.still (Runs.move f0) ?_
        intro u30 e30
        refine HL.still (Runs.move f5) ?_
        intro u31 e31
        refine HL.still (Runs.move e7) ?_
        intro u32 e32
        refine HL.still (Runs.ixSl (o' := (kept p xs j).length) Tryd.underlying33 sz9 e30 e31 (by omega) (by omega) (by omega)) ?_
        intro u33 e33
        refine HL.zero (HO.store (s := 1) sz9 e33 e32 rfl hub (by omega) rfl ?_)
        intro h3 w3
        refine HL.nil ?_
        have hk1 := kept_yes hlt hz
        -- region 10
        repeat refine HW.seq ?_
        refine HW.region ?_
        refine HL.still (Runs.move f5) ?_
        intro u34 e34
        refine HL.still (Runs.add e34 rfl (i64w (by omega))) ?_
        intro u35 e35
        refine HL.still (Runs.assign e35) ?_
        intro u5 e5
        refine HL.nil ?_
        -- region 6
        repeat refine HW.seq ?_
        refine HW.region ?_
        refine HL.still (Runs.move f6) ?_
        intro u20 e20
        refine HL.still (Runs.add e20 rfl (i64w (by omega))) ?_
        intro u21 e21
        refine HL.still (Runs.assign e21) ?_
        intro u6 e6
        refine HL.nil ?_
        refine ⟨xs.length - (j + 1), by omega, j + 1, cur.set (kept p xs j).length (S8 (xs.getD j [])), by omega, rfl, e6, e5.trans (by rw [hk1, List.length_append]; rfl), f0, f1, by rw [hk1, List.length_append, List.length_singleton]; omega, by rw [List.length_set, hcl], ?_, ?_, w3.new, hE.trans (ExB.of_wr w3)⟩
        · rw [hk1, List.length_append, List.length_singleton, List.map_append, ← htk, List.take_succ_eq_append_getElem (by rw [List.length_set]; omega), List.take_set_of_le (Nat.le_refl _)]
          simp
        · rw [List.drop_set_of_lt (by omega), ← List.drop_drop, ← List.drop_drop, hdr]
    · have hjl : j = xs.length := by omega
      subst hjl
      rw [hfull] at f5 hkl htk
      -- region 5
      repeat refine HW.seq ?_
      refine HW.region ?_
      refine HL.still (Runs.move f6) ?_
      intro u16 e16
      refine HL.still (Runs.move f0) ?_
      intro u17 e17
      refine HL.still (Runs.lenSl rfl Tryd.underlying33 e17) ?_
      intro u18 e18
      refine HL.still (Runs.lss e16 e18 rfl) ?_
      intro u19 e19
      refine HL.nil ?_
      repeat refine HW.seq ?_
      refine HW.no ?_ ?_
      exact e19.trans (congrArg Value.bool (decide_eq_false (by omega)))
      refine HW.exitHere ?_
      obtain ⟨L, hL⟩ : ∃ L, L = xs.filter fun x => !p x := ⟨_, rfl⟩
      rw [← hL] at f5 hkl htk ⊢
      -- region 11
      repeat refine HW.seq ?_
      refine HW.region ?_
      refine HL.still (Runs.move f0) ?_
      intro u36 e36
      refine HL.still (Runs.move f5) ?_
      intro u37 e37
      refine HL.still (Runs.sliceSl Tryd.underlying33 sz9 e36 (lo := L.length) (hi := xs.length) ⟨_, e37⟩ rfl (by omega) (Nat.le_refl _) (show _ = some (⟨b, L.length, none⟩ : Addr) by rw [if_neg (by omega), Option.map_some, addr_add, Nat.zero_add, Nat.mul_one])) ?_
      intro u38 e38
      refine HL.zero (HO.clearR Tryd.underlying33 zv9 rfl rfl e38 hub (by omega) ?_)
      intro h3 w3
      refine HL.nil ?_
      -- region 12
      repeat refine HW.seq ?_
      refine HW.region ?_
      refine HL.still (Runs.move f0) ?_
      intro u39 e39
      refine HL.still (Runs.move f5) ?_
      intro u40 e40
      refine HL.still (Runs.sliceSl Tryd.underlying33 sz9 e39 (lo := 0) (hi := L.length) rfl ⟨_, e40⟩ (Nat.zero_le _) (by omega) rfl) ?_
      intro u41 e41
      refine HL.still (Runs.assign e41) ?_
      intro u4 e4
      refine HL.nil ?_
      have e4' := e4.trans (show _ = Value.slice (some ⟨b, 0, none⟩) L.length xs.length by rw [if_neg (by omega)]; simp [addr_add])
      refine HW.ret ?_
      refine RT.one rfl e4' ⟨rfl, ?_, hE.trans (ExB.of_wr w3)⟩
      refine .inr ⟨b, 0, rfl, fun q hq => ?_⟩
      rw [Nat.zero_add, cellH_of w3.new]
      have h1 : (cur.take L.length)[q]? = some (S8 (L.getD q [])) := by
        rw [htk, List.getElem?_map, getD_of hq]
        rfl
      simp only [List.getElem?_toArray]
      rw [List.append_assoc, List.getElem?_append_left (by rw [List.length_take]; omega)]
      exact h1
/-! ### split, below -/
theorem split2_ch (h : Heap) (s : Str) (hs : s.length < 4611686018427387904) : CH Tryd.prog 34 #[S8 s] h fun v h' => v = .tuple #[S8 (parentO s), S8 (lastS (parts s))] ∧ h' = h := by
  refine CH.of_body Tryd.func34 rfl rfl rfl ?_
  intro f hf
  have p0 : f 0 = S8 s := by rw [hf]; exact fr0_at rfl
  -- region 0
  repeat refine HW.seq ?_
  refine HW.region ?_
  refine HL.still (Runs.assign rfl) ?_
  intro u2 e2
  refine HL.still (Runs.assign rfl) ?_
  intro u3 e3
  refine HL.nil ?_
  -- region 1
  repeat refine HW.seq ?_
  refine HW.region ?_
  refine HL.still (Runs.move p0) ?_
  intro u5 e5
  refine HL.one (HO.call Tryd.func55 bd55 nm55 (args2 e5 rfl) rfl ((last1_ch h s hs).mono ?_))
  rintro _ h1 ⟨rfl, hh1⟩
  intro u6 e6
  refine HL.still (Runs.assign e6) ?_
  intro u4 e4
  refine HL.nil ?_
  rcases lastIdx_at s with ⟨hi, hno⟩ | ⟨u, v, hsv, hv, hi⟩
  · rw [hi] at e4
    obtain ⟨q1, q2⟩ := last_none s hno
    -- region 2
    repeat refine HW.seq ?_
    refine HW.draw mixed (by kernel_rfl) ?_
    refine HS.still (Runs.move p0) ?_
    intro u7 e7
    refine HS.still (Runs.move e4) ?_
    intro u8 e8
    refine HS.still (Runs.maxI e8 rfl (c := 0) rfl) ?_
    intro u9 e9
    refine HS.still (Runs.sliceS Tryd.underlying9 e7 (lo := 0) (hi := 0) rfl ⟨_, e9⟩ (Nat.le_refl _) (Nat.zero_le _)) ?_
    intro u10 e10
    refine HS.still (Runs.move p0) ?_
    intro u11 e11
    refine HS.still (Runs.move e4) ?_
    intro u12 e12
    refine HS.still (Runs.add e12 rfl (c := 0) rfl) ?_
    intro u13 e13
    refine HS.still (Runs.sliceS Tryd.underlying9 e11 (lo := 0) (hi := s.length) ⟨_, e13⟩ rfl (Nat.zero_le _) (Nat.le_refl _)) ?_
    intro u14 e14
    refine HS.still (Runs.assign e10) ?_
    intro u2 e2
    refine HS.still (Runs.assign e14) ?_
    intro u3 e3
    refine HS.nil ?_
    refine HW.ret ?_
    refine RT.two rfl e2 e3 ⟨?_, hh1⟩
    rw [q1, q2, List.take_of_length_le (Nat.le_refl _)]
    rfl
  · rw [hi] at e4
    obtain ⟨q1, q2⟩ := last_some u v hv
    rw [← hsv] at q1 q2
    have hl : s.length = u.length + 1 + v.length := by rw [hsv]; simp; omega
    -- region 2
    repeat refine HW.seq ?_
    refine HW.draw mixed (by kernel_rfl) ?_
    refine HS.still (Runs.move p0) ?_
    intro u7 e7
    refine HS.still (Runs.move e4) ?_
    intro u8 e8
    refine HS.still (Runs.maxI e8 rfl (c := (u.length : Int)) (by split <;> omega)) ?_
    intro u9 e9
    refine HS.still (Runs.sliceS Tryd.underlying9 e7 (lo := 0) (hi := u.length) rfl ⟨_, e9⟩ (Nat.zero_le _) (by omega)) ?_
    intro u10 e10
    refine HS.still (Runs.move p0) ?_
    intro u11 e11
    refine HS.still (Runs.move e4) ?_
    intro u12 e12
    refine HS.still (Runs.add e12 rfl (c := ((u.length + 1 : Nat) : Int)) (by rw [i64w (by omega)]; omega)) ?_
    intro u13 e13
    refine HS.still (Runs.sliceS Tryd.underlying9 e11 (lo := u.length + 1) (hi := s.length) ⟨_, e13⟩ rfl (by omega) (Nat.le_refl _)) ?_
    intro u14 e14
    refine HS.still (Runs.assign e10) ?_
    intro u2 e2
    refine HS.still (Runs.assign e14) ?_
    intro u3 e3
    refine HS.nil ?_
    refine HW.ret ?_
    refine RT.two rfl e2 e3 ⟨?_, hh1⟩
    have r1 : List.drop 0 (List.take u.length s) = u := by rw [hsv, List.drop_zero, List.take_left' rfl]
    have r2 : List.drop (u.length + 1) (List.take s.length s) = v := by
      rw [List.take_of_length_le (Nat.le_refl _), hsv, ← List.drop_drop, List.drop_left' rfl]
      rfl
    rw [r1, r2, q1, q2]
theorem below_ch (h : Heap) (p n : Str) (hp : p.length ≤ 100000) (hn : n.length ≤ 100000) : CH Tryd.prog 38 #[S8 p, S8 n] h fun v h' => v = S8 (belowO p n) ∧ h' = h := by
  refine CH.of_body Tryd.func38 rfl rfl rfl ?_
  intro f hf
  have p0 : f 0 = S8 p := by rw [hf]; exact fr0_at rfl
  have p1 : f 1 = S8 n := by rw [hf]; exact fr0_at rfl
  -- region 0
  repeat refine HW.seq ?_
  refine HW.region ?_
  refine HL.still (Runs.assign rfl) ?_
  intro u4 e4
  refine HL.nil ?_
  by_cases he : p = []
  · skip
    -- region 1
    repeat refine HW.seq ?_
    refine HW.region ?_
    refine HL.still (Runs.move p0) ?_
    intro u5 e5
    refine HL.still (Runs.eqS e5 rfl (ys := []) (t := true) (by simp [he])) ?_
    intro u6 e6
    refine HL.nil ?_
    repeat refine HW.seq ?_
    refine HW.yes ?_ ?_
    exact e6
    -- region 2
    repeat refine HW.seq ?_
    refine HW.region ?_
    refine HL.still (Runs.move p1) ?_
    intro u7 e7
    refine HL.still (Runs.assign e7) ?_
    intro u4 e4
    refine HL.nil ?_
    refine HW.ret ?_
    exact RT.one rfl e4 ⟨by rw [belowO, if_pos he], rfl⟩
  · skip
    -- region 1
    repeat refine HW.seq ?_
    refine HW.region ?_
    refine HL.still (Runs.move p0) ?_
    intro u5 e5
    refine HL.still (Runs.eqS e5 rfl (ys := []) (t := false) (by simp [he])) ?_
    intro u6 e6
    refine HL.nil ?_
    repeat refine HW.seq ?_
    refine HW.no ?_ ?_
    exact e6
    refine HW.skip ?_
    -- region 3
    repeat refine HW.seq ?_
    refine HW.region ?_
    refine HL.still (Runs.move p0) ?_
    intro u8 e8
    refine HL.still (Runs.addS e8 rfl (ys := [47]) (by simp; omega)) ?_
    intro u9 e9
    refine HL.still (Runs.move p1) ?_
    intro u10 e10
    refine HL.still (Runs.addS e9 e10 (by simp; omega)) ?_
    intro u11 e11
    refine HL.still (Runs.assign e11) ?_
    intro u4 e4
    refine HL.nil ?_
    refine HW.ret ?_
    exact RT.one rfl e4 ⟨by rw [belowO, if_neg he, List.append_assoc]; rfl, rfl⟩
theorem rbelow_ch (h : Heap) (p n : Str) (hp : p.length ≤ 100000) (hn : n.length ≤ 100000) : CH Tryd.prog 40 #[S8 p, S8 n] h fun v h' => v = S8 (belowO p n) ∧ h' = h := by
  refine CH.of_body Tryd.func40 rfl rfl rfl ?_
  intro f hf
  have p0 : f 0 = S8 p := by rw [hf]; exact fr0_at rfl
  have p1 : f 1 = S8 n := by rw [hf]; exact fr0_at rfl
  -- region 0
  repeat refine HW.seq ?_
  refine HW.region ?_
  refine HL.still (Runs.assign rfl) ?_
  intro u4 e4
  refine HL.nil ?_
  by_cases he : p = []
  · skip
    -- region 1
    repeat refine HW.seq ?_
    refine HW.region ?_
    refine HL.still (Runs.move p0) ?_
    intro u5 e5
    refine HL.still (Runs.eqS e5 rfl (ys := []) (t := true) (by simp [he])) ?_
    intro u6 e6
    refine HL.nil ?_
    repeat refine HW.seq ?_
    refine HW.yes ?_ ?_
    exact e6
    -- region 2
    repeat refine HW.seq ?_
    refine HW.region ?_
    refine HL.still (Runs.move p1) ?_
    intro u7 e7
    refine HL.still (Runs.assign e7) ?_
    intro u4 e4
    refine HL.nil ?_
    refine HW.ret ?_
    exact RT.one rfl e4 ⟨by rw [belowO, if_pos he], rfl⟩
  · skip
    -- region 1
    repeat refine HW.seq ?_
    refine HW.region ?_
    refine HL.still (Runs.move p0) ?_
    intro u5 e5
    refine HL.still (Runs.eqS e5 rfl (ys := []) (t := false) (by simp [he])) ?_
    intro u6 e6
    refine HL.nil ?_
    repeat refine HW.seq ?_
    refine HW.no ?_ ?_
    exact e6
    refine HW.skip ?_
    -- region 3
    repeat refine HW.seq ?_
    refine HW.region ?_
    refine HL.still (Runs.move p0) ?_
    intro u8 e8
    refine HL.still (Runs.addS e8 rfl (ys := [47]) (by simp; omega)) ?_
    intro u9 e9
    refine HL.still (Runs.move p1) ?_
    intro u10 e10
    refine HL.still (Runs.addS e9 e10 (by simp; omega)) ?_
    intro u11 e11
    refine HL.still (Runs.assign e11) ?_
    intro u4 e4
    refine HL.nil ?_
    refine HW.ret ?_
    exact RT.one rfl e4 ⟨by rw [belowO, if_neg he, List.append_assoc]; rfl, rfl⟩
end Go.Proofs.YtfnippeemboljaaDoor
