/- The document's store: what it is on the heap; New, Used. -/
import Derived.Test.YtklelhfgbjpifaaSx1
import Derived.Test.YtklelhfgbjpifaaChain
import Derived.Great.BuildSlice
namespace Go.Proofs.Ytklelhfgbjpifaa
set_option linter.unnecessarySimpa false
set_option linter.unusedSimpArgs false
set_option linter.unusedVariables false
open Go.RowKit
theorem sz22 : (Try.prog.info? 22).map (·.size) = some 1 := by kernel_rfl
theorem sz41 : (Try.prog.info? 41).map (·.size) = some 1 := by kernel_rfl
def zD : Dg := ⟨zero32, rfl⟩
/-- A row of digests at an address. -/
def Dgs (h : Heap) (a : Option Addr) (l : List Dg) : Prop := l = [] ∨ ∃ sb so, a = some ⟨sb, so, none⟩ ∧ ∀ j, j < l.length → ∀ i v, (encD (l.getD j zD))[i]? = some v → cellH h sb (so + j * 32 + i) = some v
/-- Where a slice lies, if it lies anywhere. -/
def Lie (F : Nat → Prop) (h : Heap) (a : Option Addr) : Prop := ∀ sb so, a = some ⟨sb, so, none⟩ → sb < h.size ∧ F sb
theorem Lie.none (F : Nat → Prop) (h : Heap) : Lie F h none := fun sb so e => by cases e
theorem Lie.mono {F F' : Nat → Prop} {h h' : Heap} {a : Option Addr} (x : Lie F h a) (hs : h.size ≤ h'.size) (k : ∀ j, j < h.size → F j → F' j) : Lie F' h' a := fun sb so e => ⟨Nat.lt_of_lt_of_le (x sb so e).1 hs, k sb (x sb so e).1 (x sb so e).2⟩
/-- The document's store lies in block s: its room; its blobs, in their order; all in blocks of F's. -/
def Rst (F : Nat → Prop) (h : Heap) (s : Nat) (room : Int) (M : List (Dg × List UInt8)) : Prop :=
  ∃ ka kc ba bc l, h[s]? = some (.cells [.slice ka M.length kc, .slice ba M.length bc, I64 room].toArray 43 (0, 0)) ∧ Dgs h ka (M.map (·.1)) ∧ M.length ≤ kc ∧ Byts h ba l ∧ M.length ≤ bc ∧ l.map (·.2.2) = M.map (·.2) ∧
    F s ∧ Lie (fun j => F j ∧ j ≠ s) h ka ∧ Lie (fun j => F j ∧ j ≠ s) h ba ∧ ∀ x ∈ l, Lie (fun j => F j ∧ j ≠ s) h x.1
section
variable {ρ : Operand → Value} {h : Heap} {d : Option Tmp} {ty : TypeId} {pos : String} {af : Array Edge} {gd : Option (Nat × Bool)} {o1 : Operand}
theorem run_buildR (r : Int) (w : World) : (Instr.build 43 #[(2, I64 r)]).run Try.prog w = .ok (.agg [.slice none 0 0, .slice none 0 0, I64 r].toArray) w := by kernel_rfl
theorem Runs.buildR (r : Int) (e1 : ρ o1 = I64 r) : Runs Try.prog ⟨d, .build 43 #[(2, o1)], ty, pos, af, gd⟩ ρ h (.agg [.slice none 0 0, .slice none 0 0, I64 r].toArray) :=
  Runs.build (fun w => by
    have q : (#[(2, o1)] : Array (Nat × Operand)).map (fun (i, x) => (i, ρ x)) = #[(2, I64 r)] := by simp [e1]
    rw [q]
    exact run_buildR r w)
end
set_option maxRecDepth 10000 in
theorem new_ref_ch (h : Heap) (r : Int) : CH Try.prog 17 #[I64 r] h fun v h' => v = .pointer (some ⟨h.size, 0, none⟩) ∧ Rst (fun j => h.size ≤ j) h' h.size (roomO r) [] ∧ Ext h h' := by
  refine CH.of_body Try.func17 rfl rfl rfl ?_
  intro f hf
  have p0 : f 0 = I64 r := by rw [hf]; exact fr0_at rfl
  -- region 0
  repeat refine HW.seq ?_
  refine HW.region ?_
  refine HL.still (Runs.assign rfl) ?_
  intro u2 e2
  refine HL.nil ?_
  -- region 1
  repeat refine HW.seq ?_
  refine HW.region ?_
  refine HL.still (Runs.move p0) ?_
  intro u3 e3
  refine HL.still (Runs.minI e3 rfl rfl) ?_
  intro u4 e4
  refine HL.still (Runs.maxI (a := 0) rfl e4 rfl) ?_
  intro u5 e5
  refine HL.still (Runs.buildR (roomO r) e5) ?_
  intro u6 e6
  refine HL.one (HO.box e6 ?_)
  intro h1 w1
  intro u7 e7
  refine HL.still (Runs.assign e7) ?_
  intro u2 e2
  refine HL.nil ?_
  refine HW.ret ?_
  exact RT.one rfl e2 ⟨rfl, ⟨none, 0, none, 0, [], w1.new, .inl rfl, Nat.le_refl _, .inl rfl, Nat.le_refl _, rfl, Nat.le_refl _, Lie.none _ _, Lie.none _ _, fun x hx => by cases hx⟩, w1.ext⟩
theorem tot_take (M : List (Dg × List UInt8)) {k : Nat} (hk : k < M.length) : tot (M.take (k + 1)) = tot (M.take k) + (M.getD k (zD, [])).2.length := by
  rw [List.take_succ_eq_append_getElem hk, tot_append]
  simp [tot, hk]
theorem tot_take_le (M : List (Dg × List UInt8)) (k : Nat) : tot (M.take k) ≤ tot M := by
  conv => rhs; rw [← List.take_append_drop k M, tot_append]
  omega
set_option maxRecDepth 10000 in
theorem usedR_ch {F : Nat → Prop} (h : Heap) (s : Nat) (room : Int) (M : List (Dg × List UInt8)) (hR : Rst F h s room M) (ht : tot M ≤ 1000000000) (hl : M.length ≤ 1000000) : CH Try.prog 27 #[.pointer (some ⟨s, 0, none⟩)] h fun v h' => v = I64 (tot M : Int) ∧ h' = h := by
  obtain ⟨ka, kc, ba, bc, l, hs, hK, hkc, hB, hbc, hlM, -⟩ := hR
  have hll : l.length = M.length := by have := congrArg List.length hlM; rwa [List.length_map, List.length_map] at this
  refine CH.of_body Try.func27 rfl rfl rfl ?_
  intro f hf
  have p0 : f 0 = .pointer (some ⟨s, 0, none⟩) := by rw [hf]; exact fr0_at rfl
  -- region 0
  repeat refine HW.seq ?_
  refine HW.region ?_
  refine HL.still (Runs.assign rfl) ?_
  intro u2 e2
  refine HL.nil ?_
  -- region 1
  repeat refine HW.seq ?_
  refine HW.region ?_
  refine HL.still (Runs.assign rfl) ?_
  intro u3 e3
  refine HL.nil ?_
  -- region 2
  repeat refine HW.seq ?_
  refine HW.region ?_
  refine HL.still (Runs.assign rfl) ?_
  intro u4 e4
  refine HL.nil ?_
  repeat refine HW.seq ?_
  refine HW.block ?_
  refine HW.loop (fun m f u => ∃ k : Nat, k ≤ M.length ∧ m = M.length - k ∧ f 4 = I64 k ∧ f 0 = .pointer (some ⟨s, 0, none⟩) ∧ f 3 = I64 (tot (M.take k) : Int) ∧ u = h) M.length
    ⟨0, Nat.zero_le _, rfl, e4, p0, e3, rfl⟩ ?_
  clear e2 e3 e4
  rintro m f u ⟨k, hk, hm, f4, f0, f3, rfl⟩
  by_cases hlt : k < M.length
  · obtain ⟨sb, so, hba, b1, c1, xs, hx, hcell, _, _⟩ := hB.at (show k < l.length by omega)
    have hxs : (M.getD k (zD, [])).2 = xs := by
      have h1 := congrArg (·[k]?) hlM
      simp only [List.getElem?_map, hx, List.getElem?_eq_getElem hlt, Option.map_some] at h1
      have h2 := Option.some.inj h1
      rw [List.getD_eq_getElem?_getD, List.getElem?_eq_getElem hlt]
      exact h2.symm
    have htt := tot_take M hlt
    rw [hxs] at htt
    have htl := tot_take_le M (k + 1)
    have hs' := hs
    rw [hba] at hs'
    -- region 3
    repeat refine HW.seq ?_
    refine HW.region ?_
    refine HL.still (Runs.move f4) ?_
    intro u5 e5
    refine HL.still (Runs.move f0) ?_
    intro u6 e6
    refine HL.still (Runs.nilc e6) ?_
    intro u7 e7
    refine HL.still (Runs.fld (o' := 1) Try.underlying43 rfl sz22 (by decide) e7 (by rfl)) ?_
    intro u8 e8
    refine HL.still (Runs.load Try.underlying22 rfl e8 (by rw [cellH_of hs']; rfl)) ?_
    intro u9 e9
    refine HL.still (Runs.lenSl rfl Try.underlying22 e9) ?_
    intro u10 e10
    refine HL.still (Runs.lss e5 e10 rfl) ?_
    intro u11 e11
    refine HL.nil ?_
    repeat refine HW.seq ?_
    refine HW.yes ?_ ?_
    exact e11.trans (congrArg Value.bool (decide_eq_true (by omega)))
    refine HW.skip ?_
    repeat refine HW.seq ?_
    refine HW.block ?_
    -- region 5
    repeat refine HW.seq ?_
    refine HW.region ?_
    refine HL.still (Runs.move f3) ?_
    intro u14 e14
    refine HL.still (Runs.move f0) ?_
    intro u15 e15
    refine HL.still (Runs.nilc e15) ?_
    intro u16 e16
    refine HL.still (Runs.fld (o' := 1) Try.underlying43 rfl sz22 (by decide) e16 (by rfl)) ?_
    intro u17 e17
    refine HL.still (Runs.load Try.underlying22 rfl e17 (by rw [cellH_of hs']; rfl)) ?_
    intro u18 e18
    refine HL.still (Runs.move f4) ?_
    intro u19 e19
    refine HL.still (Runs.ixSl (o' := so + k) Try.underlying22 sz29 e18 e19 (by omega) (by omega) (by omega)) ?_
    intro u20 e20
    refine HL.still (Runs.load Try.underlying29 rfl e20 hcell) ?_
    intro u21 e21
    refine HL.still (Runs.lenSl rfl Try.underlying29 e21) ?_
    intro u22 e22
    refine HL.still (Runs.add e14 e22 (i64w (by omega))) ?_
    intro u23 e23
    refine HL.still (Runs.assign e23) ?_
    intro u3 e3
    refine HL.nil ?_
    -- region 4
    repeat refine HW.seq ?_
    refine HW.region ?_
    refine HL.still (Runs.move f4) ?_
    intro u12 e12
    refine HL.still (Runs.add e12 rfl (i64w (by omega))) ?_
    intro u13 e13
    refine HL.still (Runs.assign e13) ?_
    intro u4 e4
    refine HL.nil ?_
    exact ⟨M.length - (k + 1), by omega, k + 1, by omega, rfl, e4, f0, e3.trans (congrArg (Value.int .i64) (by rw [htt]; omega)), rfl⟩
  · have hkl : k = M.length := by omega
    subst hkl
    rw [List.take_of_length_le (Nat.le_refl _)] at f3
    -- region 3
    repeat refine HW.seq ?_
    refine HW.region ?_
    refine HL.still (Runs.move f4) ?_
    intro u5 e5
    refine HL.still (Runs.move f0) ?_
    intro u6 e6
    refine HL.still (Runs.nilc e6) ?_
    intro u7 e7
    refine HL.still (Runs.fld (o' := 1) Try.underlying43 rfl sz22 (by decide) e7 (by rfl)) ?_
    intro u8 e8
    refine HL.still (Runs.load Try.underlying22 rfl e8 (by rw [cellH_of hs]; rfl)) ?_
    intro u9 e9
    refine HL.still (Runs.lenSl rfl Try.underlying22 e9) ?_
    intro u10 e10
    refine HL.still (Runs.lss e5 e10 rfl) ?_
    intro u11 e11
    refine HL.nil ?_
    repeat refine HW.seq ?_
    refine HW.no ?_ ?_
    exact e11.trans (congrArg Value.bool (decide_eq_false (by omega)))
    refine HW.exitHere ?_
    -- region 6
    repeat refine HW.seq ?_
    refine HW.region ?_
    refine HL.still (Runs.move f3) ?_
    intro u24 e24
    refine HL.still (Runs.assign e24) ?_
    intro u2 e2
    refine HL.nil ?_
    refine HW.ret ?_
    exact RT.one rfl e2 ⟨rfl, rfl⟩
end Go.Proofs.Ytklelhfgbjpifaa
/-! The document's store: place. -/
namespace Go.Proofs.Ytklelhfgbjpifaa
set_option linter.unnecessarySimpa false
set_option linter.unusedSimpArgs false
set_option linter.unusedVariables false
open Go.RowKit
theorem Dgs.ext {h h' : Heap} {a : Option Addr} {l : List Dg} (x : Dgs h a l) (k : Ext h h') : Dgs h' a l := by
  rcases x with x | ⟨sb, so, h1, h2⟩
  · exact .inl x
  · exact .inr ⟨sb, so, h1, fun j hj i v hv => by rw [cellH_keep (k.old sb (lt_of_cellH (h2 j hj i v hv)))]; exact h2 j hj i v hv⟩
theorem Dgs.mk {N : Nat} {h h' : Heap} {a : Option Addr} {l : List Dg} (x : Dgs h a l) (k : Mk N h h') : Dgs h' a l := by
  rcases x with x | ⟨sb, so, h1, h2⟩
  · exact .inl x
  · exact .inr ⟨sb, so, h1, fun j hj i v hv => k.cell (h2 j hj i v hv)⟩
theorem Dgs.at {h : Heap} {a : Option Addr} {l : List Dg} (x : Dgs h a l) {k : Nat} (hk : k < l.length) : ∃ sb so, a = some ⟨sb, so, none⟩ ∧ ∀ i v, (encD (l.getD k zD))[i]? = some v → cellH h sb (so + k * 32 + i) = some v := by
  rcases x with x | ⟨sb, so, h1, h2⟩
  · subst x; cases hk
  · exact ⟨sb, so, h1, h2 k hk⟩
/-- Where a digest stands, or would. -/
def placeO (K : List Dg) (x : Dg) : Nat := (K.takeWhile fun k => lessL k.1 x.1).length
theorem placeO_le (K : List Dg) (x : Dg) : placeO K x ≤ K.length := by
  unfold placeO
  exact (List.takeWhile_prefix _).length_le
theorem placeO_step {K : List Dg} {x : Dg} {k : Nat} (hk : k < K.length) (hall : ∀ j, j < k → lessL (K.getD j zD).1 x.1 = true) (h : lessL (K.getD k zD).1 x.1 = false) : placeO K x = k := by
  induction K generalizing k with
  | nil => cases hk
  | cons y K ih =>
    unfold placeO
    cases k with
    | zero =>
      have : lessL y.1 x.1 = false := h
      rw [List.takeWhile_cons, this]
      rfl
    | succ k =>
      have : lessL y.1 x.1 = true := hall 0 (by omega)
      rw [List.takeWhile_cons, this]
      have := ih (k := k) (by simpa using hk) (fun j hj => hall (j + 1) (by omega)) h
      unfold placeO at this
      simp [this]
theorem placeO_end {K : List Dg} {x : Dg} (hall : ∀ j, j < K.length → lessL (K.getD j zD).1 x.1 = true) : placeO K x = K.length := by
  induction K with
  | nil => rfl
  | cons y K ih =>
    unfold placeO
    have : lessL y.1 x.1 = true := hall 0 (by simp)
    rw [List.takeWhile_cons, this]
    have := ih (fun j hj => hall (j + 1) (by simpa using hj))
    unfold placeO at this
    simp [this]
set_option maxRecDepth 10000 in
theorem place_ch {F : Nat → Prop} (h : Heap) (s : Nat) (room : Int) (M : List (Dg × List UInt8)) (x : Dg) (hR : Rst F h s room M) (hl : M.length ≤ 1000000) :
    CH Try.prog 47 #[.pointer (some ⟨s, 0, none⟩), keyV x] h fun v h' => v = .tuple #[I64 (placeO (M.map (·.1)) x : Int), .bool (decide (placeO (M.map (·.1)) x < M.length) && (M.map (·.1)).getD (placeO (M.map (·.1)) x) zD == x)] ∧ Ext h h' := by
  obtain ⟨ka, kc, ba, bc, l, hs, hK, hkc, -⟩ := hR
  obtain ⟨D, hD⟩ : ∃ D, D = M.map (·.1) := ⟨_, rfl⟩
  have hDl : M.length = D.length := by rw [hD, List.length_map]
  rw [← hD] at hK ⊢
  rw [hDl] at hs hkc hl ⊢
  refine CH.of_body Try.func47 rfl rfl rfl ?_
  intro f hf
  have p0 : f 0 = .pointer (some ⟨s, 0, none⟩) := by rw [hf]; exact fr0_at rfl
  have p1 : f 1 = keyV x := by rw [hf]; exact fr0_at rfl
  -- region 0
  repeat refine HW.seq ?_
  refine HW.region ?_
  refine HL.one (HO.box p1 ?_)
  intro h1 w1
  intro u3 e3
  refine HL.still (Runs.assign rfl) ?_
  intro u4 e4
  refine HL.still (Runs.assign rfl) ?_
  intro u5 e5
  refine HL.nil ?_
  have z1 := w1.size
  have hs1 := w1.keep hs
  have hK1 := hK.ext w1.ext
  have hx1 : h1[h.size]? = some (.cells (encD x).toArray 31 (0, 0)) := w1.new
  -- region 1
  repeat refine HW.seq ?_
  refine HW.region ?_
  refine HL.still (Runs.assign rfl) ?_
  intro u6 e6
  refine HL.nil ?_
  repeat refine HW.seq ?_
  refine HW.block ?_
  refine HW.loop (fun m f u => ∃ k : Nat, k ≤ D.length ∧ m = D.length - k ∧ f 6 = I64 k ∧ f 0 = .pointer (some ⟨s, 0, none⟩) ∧ f 3 = .pointer (some ⟨h.size, 0, none⟩) ∧ Ext h1 u ∧ ∀ j, j < k → lessL (D.getD j zD).1 x.1 = true) D.length
    ⟨0, Nat.zero_le _, rfl, e6, p0, e3, Bel.refl _ _, fun j hj => by omega⟩ ?_
  clear e4 e5 e6
  rintro m f u ⟨k, hk, hm, f6, f0, f3, hX, hall⟩
  have hsu := hX.keepE hs1
  have hKu := hK1.ext hX
  have hxu := hX.keepE hx1
  by_cases hlt : k < D.length
  · obtain ⟨sb, so, hka, hc⟩ := hKu.at hlt
    have hsu' := hsu
    rw [hka] at hsu'
    have hcell : cellH u s 0 = some (.slice (some ⟨sb, so, none⟩) D.length kc) := by rw [cellH_of hsu']; rfl
    -- region 2
    repeat refine HW.seq ?_
    refine HW.grow #[0, 0, 2, 6, 14, 30, 63, 127, 255, 511, 1023, 2047, 255, 8191, 16383, 255, 65535, 131071] (Mk u.size) mixed (by kernel_rfl) (Mk.refl _) Mk.trans ?_
    refine HM.still (Mk.refl _) (fun f h K => Runs.move ((K.keep (by kernel_rfl)).trans f6)) ?_
    refine HM.still (Mk.refl _) (fun f h K => Runs.move ((K.keep (by kernel_rfl)).trans f0)) ?_
    refine HM.still (Mk.refl _) (fun f h K => Runs.nilc (K.at 1 8 rfl rfl)) ?_
    refine HM.still (Mk.refl _) (fun f h K => Runs.fld (o' := 0) Try.underlying43 rfl sz41 (by decide) (K.at 2 9 rfl rfl) (by rfl)) ?_
    refine HM.still (Mk.refl _) (fun f h K => Runs.load Try.underlying41 rfl (K.at 3 10 rfl rfl) (K.grown.cell hcell)) ?_
    refine HM.still (Mk.refl _) (fun f h K => Runs.lenSl rfl Try.underlying41 (K.at 4 11 rfl rfl)) ?_
    refine HM.still (Mk.refl _) (fun f h K => Runs.lss (K.at 0 7 rfl rfl) (K.at 5 12 rfl rfl) (t := true) (decide_eq_true (by omega))) ?_
    refine HM.still (Mk.refl _) (fun f h K => Runs.move (K.at 6 13 rfl rfl)) ?_
    refine HM.stillG (Mk.refl _) rfl rfl rfl (fun f h K => K.at 7 14 rfl rfl) (fun f h K => Runs.move ((K.keep (by kernel_rfl)).trans f0)) ?_
    refine HM.stillG (Mk.refl _) rfl rfl rfl (fun f h K => K.at 7 14 rfl rfl) (fun f h K => Runs.nilc (K.at 8 15 rfl rfl)) ?_
    refine HM.stillG (Mk.refl _) rfl rfl rfl (fun f h K => K.at 7 14 rfl rfl) (fun f h K => Runs.fld (o' := 0) Try.underlying43 rfl sz41 (by decide) (K.at 9 16 rfl rfl) (by rfl)) ?_
    refine HM.stillG (Mk.refl _) rfl rfl rfl (fun f h K => K.at 7 14 rfl rfl) (fun f h K => Runs.load Try.underlying41 rfl (K.at 10 17 rfl rfl) (K.grown.cell hcell)) ?_
    refine HM.stillG (Mk.refl _) rfl rfl rfl (fun f h K => K.at 7 14 rfl rfl) (fun f h K => Runs.move ((K.keep (by kernel_rfl)).trans f6)) ?_
    refine HM.stillG (Mk.refl _) rfl rfl rfl (fun f h K => K.at 7 14 rfl rfl) (fun f h K => Runs.ixSl (o' := so + k * 32) Try.underlying41 sz31 (K.at 11 18 rfl rfl) (K.at 12 19 rfl rfl) (by omega) (by omega) (by omega)) ?_
    refine HM.stillG (Mk.refl _) rfl rfl rfl (fun f h K => K.at 7 14 rfl rfl) (fun f h K => Runs.loadAgg Try.underlying31 rfl sz31 (K.at 13 20 rfl rfl) (encD_len (D.getD k zD)) (fun i v hv => K.grown.cell (hc i v hv))) ?_
    refine HM.stillG (Mk.refl _) rfl rfl rfl (fun f h K => K.at 7 14 rfl rfl) (fun f h K => Runs.loadAgg Try.underlying31 rfl sz31 ((K.keep (by kernel_rfl)).trans f3) (encD_len x) (fun i v hv => K.grown.cell (load_blk hxu i v hv))) ?_
    refine HM.oneG (fun x _ => x = _) (fun _ _ _ _ e => e) rfl rfl rfl (fun f h K => K.at 7 14 rfl rfl) (fun f h K => HO.call Try.func60 bd60 nm60 (args2 (K.at 14 21 rfl rfl) (K.at 15 22 rfl rfl)) rfl ((rless_ch h (D.getD k zD).1 x.1 (D.getD k zD).2 x.2).mono fun _ _ q => ⟨Mk.of_ext q.2 K.grown.size, q.1⟩)) ?_
    refine HM.still (Mk.refl _) (fun f h K => Runs.pick (K.at 7 14 rfl rfl) (K.at 16 23 rfl rfl)) ?_
    intro f' h' hR2 V O
    have hE : Ext u h' := hR2.bel
    have q0 := (last_keep O (s := 0) (by kernel_rfl)).trans f0
    have q3 := (last_keep O (s := 3) (by kernel_rfl)).trans f3
    have q6 := (last_keep O (s := 6) (by kernel_rfl)).trans f6
    have g24 : f' 24 = .bool (lessL (D.getD k zD).1 x.1) := last_at V 17 24 rfl
    cases hless : lessL (D.getD k zD).1 x.1 with
    | true =>
      rw [hless] at g24
      refine HW.yes g24 ?_
      refine HW.skip ?_
      repeat refine HW.seq ?_
      refine HW.block ?_
      -- region 3
      repeat refine HW.seq ?_
      refine HW.region ?_
      refine HL.still (Runs.move q6) ?_
      intro u25 e25
      refine HL.still (Runs.add e25 rfl (i64w (by omega))) ?_
      intro u26 e26
      refine HL.still (Runs.assign e26) ?_
      intro u6 e6
      refine HL.nil ?_
      refine ⟨D.length - (k + 1), by omega, k + 1, by omega, rfl, e6, q0, q3, hX.ext hE (Nat.le_refl _), fun j hj => ?_⟩
      by_cases e : j = k
      · rw [e]; exact hless
      · exact hall j (by omega)
    | false =>
      rw [hless] at g24
      refine HW.no g24 ?_
      refine HW.exitHere ?_
      have hpl := placeO_step hlt hall hless
      have hs' := hE.keepE hsu'
      have hx' := hE.keepE hxu
      have hc' : ∀ i v, (encD (D.getD k zD))[i]? = some v → cellH h' sb (so + k * 32 + i) = some v := fun i v hv => by
        rw [cellH_keep (hE.old sb (lt_of_cellH (hc i v hv)))]; exact hc i v hv
      -- region 4
      repeat refine HW.seq ?_
      refine HW.draw mixed (by kernel_rfl) ?_
      refine HS.still (Runs.move q6) ?_
      intro u27 e27
      refine HS.still (Runs.move q6) ?_
      intro u28 e28
      refine HS.still (Runs.move q0) ?_
      intro u29 e29
      refine HS.still (Runs.nilc e29) ?_
      intro u30 e30
      refine HS.still (Runs.fld (o' := 0) Try.underlying43 rfl sz41 (by decide) e30 (by rfl)) ?_
      intro u31 e31
      refine HS.still (Runs.load Try.underlying41 rfl e31 (by rw [cellH_of hs']; rfl)) ?_
      intro u32 e32
      refine HS.still (Runs.lenSl rfl Try.underlying41 e32) ?_
      intro u33 e33
      refine HS.still (Runs.lss e28 e33 (t := true) (decide_eq_true (by omega))) ?_
      intro u34 e34
      refine HS.still (Runs.move e34) ?_
      intro u35 e35
      refine HS.stillG rfl rfl e35 (Runs.move q0) ?_
      intro u36 e36
      refine HS.stillG rfl rfl e35 (Runs.nilc e36) ?_
      intro u37 e37
      refine HS.stillG rfl rfl e35 (Runs.fld (o' := 0) Try.underlying43 rfl sz41 (by decide) e37 (by rfl)) ?_
      intro u38 e38
      refine HS.stillG rfl rfl e35 (Runs.load Try.underlying41 rfl e38 (by rw [cellH_of hs']; rfl)) ?_
      intro u39 e39
      refine HS.stillG rfl rfl e35 (Runs.move q6) ?_
      intro u40 e40
      refine HS.stillG rfl rfl e35 (Runs.ixSl (o' := so + k * 32) Try.underlying41 sz31 e39 e40 (by omega) (by omega) (by omega)) ?_
      intro u41 e41
      refine HS.stillG rfl rfl e35 (Runs.loadAgg Try.underlying31 rfl sz31 e41 (encD_len (D.getD k zD)) hc') ?_
      intro u42 e42
      refine HS.stillG rfl rfl e35 (Runs.loadAgg Try.underlying31 rfl sz31 q3 (encD_len x) (load_blk hx')) ?_
      intro u43 e43
      refine HS.stillG rfl rfl e35 (Runs.eqBytes Try.underlying31 Try.underlying5 sz5 eg31 e42 e43 (t := D.getD k zD == x) (D.getD k zD).2 x.2 rfl) ?_
      intro u44 e44
      refine HS.still (Runs.pick e35 e44) ?_
      intro u45 e45
      refine HS.still (Runs.assign e27) ?_
      intro u4 e4
      refine HS.still (Runs.assign e45) ?_
      intro u5 e5
      refine HS.nil ?_
      refine HW.ret ?_
      refine RT.two rfl e4 e5 ⟨?_, w1.ext.trans ((hX.ext hE (Nat.le_refl _)).mono (by omega))⟩
      rw [hpl, decide_eq_true hlt, Bool.true_and]
  · have hkn : k = D.length := by omega
    subst hkn
    have hpl := placeO_end hall
    -- region 2
    repeat refine HW.seq ?_
    refine HW.grow #[0, 0, 2, 6, 14, 30, 63, 127, 255, 511, 1023, 2047, 255, 8191, 16383, 255, 65535, 131071] (Mk u.size) mixed (by kernel_rfl) (Mk.refl _) Mk.trans ?_
    refine HM.still (Mk.refl _) (fun f h K => Runs.move ((K.keep (by kernel_rfl)).trans f6)) ?_
    refine HM.still (Mk.refl _) (fun f h K => Runs.move ((K.keep (by kernel_rfl)).trans f0)) ?_
    refine HM.still (Mk.refl _) (fun f h K => Runs.nilc (K.at 1 8 rfl rfl)) ?_
    refine HM.still (Mk.refl _) (fun f h K => Runs.fld (o' := 0) Try.underlying43 rfl sz41 (by decide) (K.at 2 9 rfl rfl) (by rfl)) ?_
    refine HM.still (Mk.refl _) (fun f h K => Runs.load Try.underlying41 rfl (K.at 3 10 rfl rfl) (K.grown.cell (by rw [cellH_of hsu]; rfl))) ?_
    refine HM.still (Mk.refl _) (fun f h K => Runs.lenSl rfl Try.underlying41 (K.at 4 11 rfl rfl)) ?_
    refine HM.still (Mk.refl _) (fun f h K => Runs.lss (K.at 0 7 rfl rfl) (K.at 5 12 rfl rfl) (t := false) (decide_eq_false (by omega))) ?_
    refine HM.still (Mk.refl _) (fun f h K => Runs.move (K.at 6 13 rfl rfl)) ?_
    refine HM.skipG rfl rfl rfl (fun f h K => K.at 7 14 rfl rfl) ?_
    refine HM.skipG rfl rfl rfl (fun f h K => K.at 7 14 rfl rfl) ?_
    refine HM.skipG rfl rfl rfl (fun f h K => K.at 7 14 rfl rfl) ?_
    refine HM.skipG rfl rfl rfl (fun f h K => K.at 7 14 rfl rfl) ?_
    refine HM.skipG rfl rfl rfl (fun f h K => K.at 7 14 rfl rfl) ?_
    refine HM.skipG rfl rfl rfl (fun f h K => K.at 7 14 rfl rfl) ?_
    refine HM.skipG rfl rfl rfl (fun f h K => K.at 7 14 rfl rfl) ?_
    refine HM.skipG rfl rfl rfl (fun f h K => K.at 7 14 rfl rfl) ?_
    refine HM.skipG rfl rfl rfl (fun f h K => K.at 7 14 rfl rfl) ?_
    refine HM.still (Mk.refl _) (fun f h K => Runs.pick (K.at 7 14 rfl rfl) rfl) ?_
    intro f' h' hR2 V O
    have hE : Ext u h' := hR2.bel
    have q0 := (last_keep O (s := 0) (by kernel_rfl)).trans f0
    have q3 := (last_keep O (s := 3) (by kernel_rfl)).trans f3
    have q6 := (last_keep O (s := 6) (by kernel_rfl)).trans f6
    have g24 : f' 24 = .bool false := last_at V 17 24 rfl
    refine HW.no g24 ?_
    refine HW.exitHere ?_
    have hs' := hE.keepE hsu
    -- region 4
    repeat refine HW.seq ?_
    refine HW.draw mixed (by kernel_rfl) ?_
    refine HS.still (Runs.move q6) ?_
    intro u27 e27
    refine HS.still (Runs.move q6) ?_
    intro u28 e28
    refine HS.still (Runs.move q0) ?_
    intro u29 e29
    refine HS.still (Runs.nilc e29) ?_
    intro u30 e30
    refine HS.still (Runs.fld (o' := 0) Try.underlying43 rfl sz41 (by decide) e30 (by rfl)) ?_
    intro u31 e31
    refine HS.still (Runs.load Try.underlying41 rfl e31 (by rw [cellH_of hs']; rfl)) ?_
    intro u32 e32
    refine HS.still (Runs.lenSl rfl Try.underlying41 e32) ?_
    intro u33 e33
    refine HS.still (Runs.lss e28 e33 (t := false) (decide_eq_false (by omega))) ?_
    intro u34 e34
    refine HS.still (Runs.move e34) ?_
    intro u35 e35
    refine HS.skipG rfl rfl e35 ?_
    intro u36 e36
    refine HS.skipG rfl rfl e35 ?_
    intro u37 e37
    refine HS.skipG rfl rfl e35 ?_
    intro u38 e38
    refine HS.skipG rfl rfl e35 ?_
    intro u39 e39
    refine HS.skipG rfl rfl e35 ?_
    intro u40 e40
    refine HS.skipG rfl rfl e35 ?_
    intro u41 e41
    refine HS.skipG rfl rfl e35 ?_
    intro u42 e42
    refine HS.skipG rfl rfl e35 ?_
    intro u43 e43
    refine HS.skipG rfl rfl e35 ?_
    intro u44 e44
    refine HS.still (Runs.pick e35 rfl) ?_
    intro u45 e45
    refine HS.still (Runs.assign e27) ?_
    intro u4 e4
    refine HS.still (Runs.assign e45) ?_
    intro u5 e5
    refine HS.nil ?_
    refine HW.ret ?_
    refine RT.two rfl e4 e5 ⟨?_, w1.ext.trans ((hX.ext hE (Nat.le_refl _)).mono (by omega))⟩
    rw [hpl, decide_eq_false (by omega), Bool.false_and]
    rfl
end Go.Proofs.Ytklelhfgbjpifaa
/-! The document's store: Size, Get. -/
namespace Go.Proofs.Ytklelhfgbjpifaa
set_option linter.unnecessarySimpa false
set_option linter.unusedSimpArgs false
set_option linter.unusedVariables false
open Go.RowKit
def hitO (M : List (Dg × List UInt8)) (x : Dg) : Bool := decide (placeO (M.map (·.1)) x < M.length) && (M.map (·.1)).getD (placeO (M.map (·.1)) x) zD == x
def atO (M : List (Dg × List UInt8)) (x : Dg) : List UInt8 := (M.getD (placeO (M.map (·.1)) x) (zD, [])).2
theorem hit_lt {M : List (Dg × List UInt8)} {x : Dg} (h : hitO M x = true) : placeO (M.map (·.1)) x < M.length := by
  unfold hitO at h
  rw [Bool.and_eq_true, decide_eq_true_eq] at h
  exact h.1
theorem Dgs.keep {h h' : Heap} {a : Option Addr} {l : List Dg} (x : Dgs h a l) (k : ∀ sb so, a = some ⟨sb, so, none⟩ → h'[sb]? = h[sb]?) : Dgs h' a l := by
  rcases x with x | ⟨sb, so, h1, h2⟩
  · exact .inl x
  · exact .inr ⟨sb, so, h1, fun j hj i v hv => by rw [cellH_keep (k sb so h1)]; exact h2 j hj i v hv⟩
theorem Byts.keep {h h' : Heap} {a : Option Addr} {l : List (Option Addr × Nat × List UInt8)} (x : Byts h a l) (k : ∀ sb so, a = some ⟨sb, so, none⟩ → h'[sb]? = h[sb]?) (kk : ∀ y ∈ l, ∀ sb so, y.1 = some ⟨sb, so, none⟩ → h'[sb]? = h[sb]?) : Byts h' a l := by
  rcases x with x | ⟨sb, so, h1, h2⟩
  · exact .inl x
  · exact .inr ⟨sb, so, h1, fun r y hy => by
      obtain ⟨q1, q2, q3⟩ := h2 r y hy
      exact ⟨by rw [cellH_keep (k sb so h1)]; exact q1, q2.keep fun tb to e => kk y (List.mem_iff_getElem?.2 ⟨r, hy⟩) tb to e, q3⟩⟩
theorem Rst.keep {F : Nat → Prop} {h h' : Heap} {s : Nat} {room : Int} {M : List (Dg × List UInt8)} (x : Rst F h s room M) (hz : h.size ≤ h'.size) (k : ∀ j, j < h.size → F j → h'[j]? = h[j]?) : Rst F h' s room M := by
  obtain ⟨ka, kc, ba, bc, l, h1, h2, h3, h4, h5, h6, h7, h8, h9, h10⟩ := x
  exact ⟨ka, kc, ba, bc, l, (k s (lt_of_some h1) h7).trans h1, h2.keep fun sb so e => k sb (h8 sb so e).1 (h8 sb so e).2.1, h3, h4.keep (fun sb so e => k sb (h9 sb so e).1 (h9 sb so e).2.1) (fun y hy sb so e => k sb (h10 y hy sb so e).1 (h10 y hy sb so e).2.1), h5, h6, h7,
    h8.mono hz fun _ _ q => q, h9.mono hz fun _ _ q => q, fun y hy => (h10 y hy).mono hz fun _ _ q => q⟩
theorem Rst.ext {F : Nat → Prop} {h h' : Heap} {s : Nat} {room : Int} {M : List (Dg × List UInt8)} (x : Rst F h s room M) (k : Ext h h') : Rst F h' s room M := x.keep k.size fun j hj _ => k.old j hj
theorem Rst.lt {F : Nat → Prop} {h : Heap} {s : Nat} {room : Int} {M : List (Dg × List UInt8)} (x : Rst F h s room M) : s < h.size := by
  obtain ⟨ka, kc, ba, bc, l, h1, _⟩ := x
  exact lt_of_some h1
theorem Rst.foot {F : Nat → Prop} {h : Heap} {s : Nat} {room : Int} {M : List (Dg × List UInt8)} (x : Rst F h s room M) : F s := by
  obtain ⟨ka, kc, ba, bc, l, h1, h2, h3, h4, h5, h6, h7, _⟩ := x
  exact h7
theorem Rst.weaken {F F' : Nat → Prop} {h : Heap} {s : Nat} {room : Int} {M : List (Dg × List UInt8)} (x : Rst F h s room M) (k : ∀ j, j < h.size → F j → F' j) : Rst F' h s room M := by
  obtain ⟨ka, kc, ba, bc, l, h1, h2, h3, h4, h5, h6, h7, h8, h9, h10⟩ := x
  exact ⟨ka, kc, ba, bc, l, h1, h2, h3, h4, h5, h6, k s (lt_of_some h1) h7, h8.mono (Nat.le_refl _) fun j hj q => ⟨k j hj q.1, q.2⟩, h9.mono (Nat.le_refl _) fun j hj q => ⟨k j hj q.1, q.2⟩, fun y hy => (h10 y hy).mono (Nat.le_refl _) fun j hj q => ⟨k j hj q.1, q.2⟩⟩
/-- A blob of it. -/
theorem Rst.at {F : Nat → Prop} {h : Heap} {s : Nat} {room : Int} {M : List (Dg × List UInt8)} (x : Rst F h s room M) {k : Nat} (hk : k < M.length) : ∃ ka kc sb so bc b c, h[s]? = some (.cells [.slice ka M.length kc, .slice (some ⟨sb, so, none⟩) M.length bc, I64 room].toArray 43 (0, 0)) ∧ cellH h sb (so + k) = some (.slice b (M.getD k (zD, [])).2.length c) ∧ Byt h b (M.getD k (zD, [])).2 ∧ (M.getD k (zD, [])).2.length ≤ c := by
  obtain ⟨ka, kc, ba, bc, l, hs, hK, hkc, hB, hbc, hlM, -⟩ := x
  have hll : l.length = M.length := by have := congrArg List.length hlM; rwa [List.length_map, List.length_map] at this
  obtain ⟨sb, so, hba, b1, c1, xs, hx, hcell, hby, hle⟩ := hB.at (show k < l.length by omega)
  have hxs : (M.getD k (zD, [])).2 = xs := by
    have h1 := congrArg (·[k]?) hlM
    simp only [List.getElem?_map, hx, List.getElem?_eq_getElem hk, Option.map_some] at h1
    have h2 := Option.some.inj h1
    rw [List.getD_eq_getElem?_getD, List.getElem?_eq_getElem hk]
    exact h2.symm
  rw [hba] at hs
  rw [hxs]
  exact ⟨ka, kc, sb, so, bc, b1, c1, hs, hcell, hby, hle⟩
set_option maxRecDepth 10000 in
theorem sizeR_ch {F : Nat → Prop} (h : Heap) (s : Nat) (room : Int) (M : List (Dg × List UInt8)) (x : Dg) (hR : Rst F h s room M) (hl : M.length ≤ 1000000) :
    CH Try.prog 25 #[.pointer (some ⟨s, 0, none⟩), keyV x] h fun v h' => v = I64 (if hitO M x = true then ((atO M x).length : Int) else -1) ∧ Ext h h' := by
  refine CH.of_body Try.func25 rfl rfl rfl ?_
  intro f hf
  have p0 : f 0 = .pointer (some ⟨s, 0, none⟩) := by rw [hf]; exact fr0_at rfl
  have p1 : f 1 = keyV x := by rw [hf]; exact fr0_at rfl
  -- region 0
  repeat refine HW.seq ?_
  refine HW.region ?_
  refine HL.one (HO.box p1 ?_)
  intro h1 w1
  intro u3 e3
  refine HL.still (Runs.assign rfl) ?_
  intro u4 e4
  refine HL.nil ?_
  have hR1 := hR.ext w1.ext
  have hx1 : h1[h.size]? = some (.cells (encD x).toArray 31 (0, 0)) := w1.new
  -- region 1
  repeat refine HW.seq ?_
  refine HW.region ?_
  refine HL.still (Runs.move p0) ?_
  intro u8 e8
  refine HL.still (Runs.loadAgg Try.underlying31 rfl sz31 e3 (encD_len x) (load_blk hx1)) ?_
  intro u9 e9
  refine HL.one (HO.call Try.func47 bd47 nm47 (args2 e8 e9) rfl ((place_ch h1 s room M x hR1 hl).mono ?_))
  rintro _ h2 ⟨rfl, X2⟩
  intro u10 e10
  refine HL.still (Runs.move e10) ?_
  intro u7 e7
  refine HL.still (Runs.extr e7 rfl) ?_
  intro u11 e11
  refine HL.still (Runs.extr e7 rfl) ?_
  intro u12 e12
  refine HL.still (Runs.assign e11) ?_
  intro u5 e5
  refine HL.still (Runs.assign e12) ?_
  intro u6 e6
  refine HL.nil ?_
  have g5 : u5 = I64 (placeO (M.map (·.1)) x : Int) := e5
  have g6 : u6 = .bool (hitO M x) := e6
  have hR2 := hR1.ext X2
  have XA : Ext h h2 := w1.ext.ext X2 (Nat.le_refl _)
  cases hh : hitO M x with
  | false =>
    rw [hh] at g6
    -- region 2
    repeat refine HW.seq ?_
    refine HW.region ?_
    refine HL.still (Runs.move g6) ?_
    intro u13 e13
    refine HL.still (Runs.notb e13 (t := false) (u := true) rfl) ?_
    intro u14 e14
    refine HL.nil ?_
    repeat refine HW.seq ?_
    refine HW.yes ?_ ?_
    exact e14
    -- region 3
    repeat refine HW.seq ?_
    refine HW.region ?_
    refine HL.still (Runs.assign rfl) ?_
    intro u4 e4
    refine HL.nil ?_
    refine HW.ret ?_
    exact RT.one rfl e4 ⟨by rw [if_neg (by decide)], XA⟩
  | true =>
    rw [hh] at g6
    have hlt := hit_lt hh
    obtain ⟨ka, kc, sb, so, bc, b, c, hs, hcell, _, _⟩ := hR2.at hlt
    -- region 2
    repeat refine HW.seq ?_
    refine HW.region ?_
    refine HL.still (Runs.move g6) ?_
    intro u13 e13
    refine HL.still (Runs.notb e13 (t := true) (u := false) rfl) ?_
    intro u14 e14
    refine HL.nil ?_
    repeat refine HW.seq ?_
    refine HW.no ?_ ?_
    exact e14
    refine HW.skip ?_
    -- region 4
    repeat refine HW.seq ?_
    refine HW.region ?_
    refine HL.still (Runs.move p0) ?_
    intro u15 e15
    refine HL.still (Runs.nilc e15) ?_
    intro u16 e16
    refine HL.still (Runs.fld (o' := 1) Try.underlying43 rfl sz22 (by decide) e16 (by rfl)) ?_
    intro u17 e17
    refine HL.still (Runs.load Try.underlying22 rfl e17 (by rw [cellH_of hs]; rfl)) ?_
    intro u18 e18
    refine HL.still (Runs.move g5) ?_
    intro u19 e19
    refine HL.still (Runs.ixSl (o' := so + placeO (M.map (·.1)) x) Try.underlying22 sz29 e18 e19 (by omega) (by omega) (by omega)) ?_
    intro u20 e20
    refine HL.still (Runs.load Try.underlying29 rfl e20 hcell) ?_
    intro u21 e21
    refine HL.still (Runs.lenSl rfl Try.underlying29 e21) ?_
    intro u22 e22
    refine HL.still (Runs.assign e22) ?_
    intro u4 e4
    refine HL.nil ?_
    refine HW.ret ?_
    exact RT.one rfl e4 ⟨by rw [if_pos rfl]; rfl, XA⟩
set_option maxRecDepth 10000 in
theorem getR_ch {F : Nat → Prop} (h : Heap) (s : Nat) (room : Int) (M : List (Dg × List UInt8)) (x : Dg) (hR : Rst F h s room M) (hl : M.length ≤ 1000000) :
    CH Try.prog 22 #[.pointer (some ⟨s, 0, none⟩), keyV x] h fun v h' => ∃ a c, v = .tuple #[.slice a (if hitO M x = true then atO M x else []).length c, .bool (hitO M x)] ∧ Byt h' a (if hitO M x = true then atO M x else []) ∧ (if hitO M x = true then atO M x else []).length ≤ c ∧ Ext h h' := by
  refine CH.of_body Try.func22 rfl rfl rfl ?_
  intro f hf
  have p0 : f 0 = .pointer (some ⟨s, 0, none⟩) := by rw [hf]; exact fr0_at rfl
  have p1 : f 1 = keyV x := by rw [hf]; exact fr0_at rfl
  -- region 0
  repeat refine HW.seq ?_
  refine HW.region ?_
  refine HL.one (HO.box p1 ?_)
  intro h1 w1
  intro u3 e3
  refine HL.still (Runs.assign rfl) ?_
  intro u4 e4
  refine HL.still (Runs.assign rfl) ?_
  intro u5 e5
  refine HL.nil ?_
  have hR1 := hR.ext w1.ext
  have hx1 : h1[h.size]? = some (.cells (encD x).toArray 31 (0, 0)) := w1.new
  -- region 1
  repeat refine HW.seq ?_
  refine HW.region ?_
  refine HL.still (Runs.move p0) ?_
  intro u9 e9
  refine HL.still (Runs.loadAgg Try.underlying31 rfl sz31 e3 (encD_len x) (load_blk hx1)) ?_
  intro u10 e10
  refine HL.one (HO.call Try.func47 bd47 nm47 (args2 e9 e10) rfl ((place_ch h1 s room M x hR1 hl).mono ?_))
  rintro _ h2 ⟨rfl, X2⟩
  intro u11 e11
  refine HL.still (Runs.move e11) ?_
  intro u8 e8
  refine HL.still (Runs.extr e8 rfl) ?_
  intro u12 e12
  refine HL.still (Runs.extr e8 rfl) ?_
  intro u13 e13
  refine HL.still (Runs.assign e12) ?_
  intro u6 e6
  refine HL.still (Runs.assign e13) ?_
  intro u7 e7
  refine HL.nil ?_
  have g6 : u6 = I64 (placeO (M.map (·.1)) x : Int) := e6
  have g7 : u7 = .bool (hitO M x) := e7
  have hR2 := hR1.ext X2
  have XA : Ext h h2 := w1.ext.ext X2 (Nat.le_refl _)
  cases hh : hitO M x with
  | false =>
    rw [hh] at g7
    -- region 2
    repeat refine HW.seq ?_
    refine HW.region ?_
    refine HL.still (Runs.move g7) ?_
    intro u14 e14
    refine HL.still (Runs.notb e14 (t := false) (u := true) rfl) ?_
    intro u15 e15
    refine HL.nil ?_
    repeat refine HW.seq ?_
    refine HW.yes ?_ ?_
    exact e15
    -- region 3
    repeat refine HW.seq ?_
    refine HW.region ?_
    refine HL.still (Runs.assign rfl) ?_
    intro u4 e4
    refine HL.still (Runs.assign rfl) ?_
    intro u5 e5
    refine HL.nil ?_
    refine HW.ret ?_
    exact RT.two rfl e4 e5 ⟨none, 0, rfl, .inl rfl, Nat.le_refl _, XA⟩
  | true =>
    rw [hh] at g7
    have hlt := hit_lt hh
    obtain ⟨ka, kc, sb, so, bc, b, c, hs, hcell, hby, hle⟩ := hR2.at hlt
    -- region 2
    repeat refine HW.seq ?_
    refine HW.region ?_
    refine HL.still (Runs.move g7) ?_
    intro u14 e14
    refine HL.still (Runs.notb e14 (t := true) (u := false) rfl) ?_
    intro u15 e15
    refine HL.nil ?_
    repeat refine HW.seq ?_
    refine HW.no ?_ ?_
    exact e15
    refine HW.skip ?_
    -- region 4
    repeat refine HW.seq ?_
    refine HW.region ?_
    refine HL.still (Runs.move p0) ?_
    intro u16 e16
    refine HL.still (Runs.nilc e16) ?_
    intro u17 e17
    refine HL.still (Runs.fld (o' := 1) Try.underlying43 rfl sz22 (by decide) e17 (by rfl)) ?_
    intro u18 e18
    refine HL.still (Runs.load Try.underlying22 rfl e18 (by rw [cellH_of hs]; rfl)) ?_
    intro u19 e19
    refine HL.still (Runs.move g6) ?_
    intro u20 e20
    refine HL.still (Runs.ixSl (o' := so + placeO (M.map (·.1)) x) Try.underlying22 sz29 e19 e20 (by omega) (by omega) (by omega)) ?_
    intro u21 e21
    refine HL.still (Runs.load Try.underlying29 rfl e21 hcell) ?_
    intro u22 e22
    refine HL.still (Runs.assign e22) ?_
    intro u4 e4
    refine HL.still (Runs.assign rfl) ?_
    intro u5 e5
    refine HL.nil ?_
    refine HW.ret ?_
    exact RT.two rfl e4 e5 ⟨b, c, rfl, hby, hle, XA⟩
end Go.Proofs.Ytklelhfgbjpifaa
/-! Two rows of digests; are blobs few? -/
namespace Go.Proofs.Ytklelhfgbjpifaa
set_option linter.unnecessarySimpa false
set_option linter.unusedSimpArgs false
set_option linter.unusedVariables false
open Go.RowKit
theorem take_eq_step {A B : List Dg} {k : Nat} (hA : k < A.length) (hB : k < B.length) (h : A.take k = B.take k) (e : A.getD k zD = B.getD k zD) : A.take (k + 1) = B.take (k + 1) := by
  rw [List.take_succ_eq_append_getElem hA, List.take_succ_eq_append_getElem hB, h]
  congr 2
  rw [List.getD_eq_getElem?_getD, List.getD_eq_getElem?_getD, List.getElem?_eq_getElem hA, List.getElem?_eq_getElem hB] at e
  exact e
set_option maxRecDepth 10000 in
theorem keys_ch (h : Heap) (A B : List Dg) (a b : Option Addr) (n m c d : Nat) (hn : n = A.length) (hm : m = B.length) (hA : Dgs h a A) (hB : Dgs h b B) (hlA : A.length ≤ 1000000) (hlB : B.length ≤ 1000000) :
    CH Try.prog 30 #[.slice a n c, .slice b m d] h fun v h' => v = .bool (A == B) ∧ h' = h := by
  subst hn hm
  refine CH.of_body Try.func30 rfl rfl rfl ?_
  intro f hf
  have p0 : f 0 = .slice a A.length c := by rw [hf]; exact fr0_at rfl
  have p1 : f 1 = .slice b B.length d := by rw [hf]; exact fr0_at rfl
  -- region 0
  repeat refine HW.seq ?_
  refine HW.region ?_
  refine HL.still (Runs.assign rfl) ?_
  intro u4 e4
  refine HL.nil ?_
  by_cases hlen : A.length = B.length
  case neg =>
    -- region 1
    repeat refine HW.seq ?_
    refine HW.region ?_
    refine HL.still (Runs.move p0) ?_
    intro u6 e6
    refine HL.still (Runs.lenSl rfl Try.underlying41 e6) ?_
    intro u7 e7
    refine HL.still (Runs.move p1) ?_
    intro u8 e8
    refine HL.still (Runs.lenSl rfl Try.underlying41 e8) ?_
    intro u9 e9
    refine HL.still (Runs.neq e7 e9 (t := true) (by simp; omega)) ?_
    intro u10 e10
    refine HL.nil ?_
    repeat refine HW.seq ?_
    refine HW.yes ?_ ?_
    exact e10
    -- region 2
    repeat refine HW.seq ?_
    refine HW.region ?_
    refine HL.still (Runs.assign rfl) ?_
    intro u4 e4
    refine HL.nil ?_
    refine HW.ret ?_
    exact RT.one rfl e4 ⟨by rw [beq_eq_false_iff_ne.2 (fun e => hlen (congrArg List.length e))], rfl⟩
  -- region 1
  repeat refine HW.seq ?_
  refine HW.region ?_
  refine HL.still (Runs.move p0) ?_
  intro u6 e6
  refine HL.still (Runs.lenSl rfl Try.underlying41 e6) ?_
  intro u7 e7
  refine HL.still (Runs.move p1) ?_
  intro u8 e8
  refine HL.still (Runs.lenSl rfl Try.underlying41 e8) ?_
  intro u9 e9
  refine HL.still (Runs.neq e7 e9 (t := false) (by rw [hlen]; simp)) ?_
  intro u10 e10
  refine HL.nil ?_
  repeat refine HW.seq ?_
  refine HW.no ?_ ?_
  exact e10
  refine HW.skip ?_
  -- region 3
  repeat refine HW.seq ?_
  refine HW.region ?_
  refine HL.still (Runs.assign rfl) ?_
  intro u5 e5
  refine HL.nil ?_
  repeat refine HW.seq ?_
  refine HW.block ?_
  refine HW.loop (fun m f u => ∃ k : Nat, k ≤ A.length ∧ m = A.length - k ∧ f 5 = I64 k ∧ f 0 = .slice a A.length c ∧ f 1 = .slice b B.length d ∧ A.take k = B.take k ∧ u = h) A.length
    ⟨0, Nat.zero_le _, rfl, e5, p0, p1, rfl, rfl⟩ ?_
  clear e4 e5
  rintro m f u ⟨k, hk, hm, f5, f0, f1, hpre, rfl⟩
  by_cases hlt : k < A.length
  · obtain ⟨sa, oa, rfl, ca⟩ := hA.at hlt
    obtain ⟨sb, ob, rfl, cb⟩ := hB.at (show k < B.length by omega)
    -- region 4
    repeat refine HW.seq ?_
    refine HW.region ?_
    refine HL.still (Runs.move f5) ?_
    intro u11 e11
    refine HL.still (Runs.move f0) ?_
    intro u12 e12
    refine HL.still (Runs.lenSl rfl Try.underlying41 e12) ?_
    intro u13 e13
    refine HL.still (Runs.lss e11 e13 rfl) ?_
    intro u14 e14
    refine HL.nil ?_
    repeat refine HW.seq ?_
    refine HW.yes ?_ ?_
    exact e14.trans (congrArg Value.bool (decide_eq_true (by omega)))
    refine HW.skip ?_
    repeat refine HW.seq ?_
    refine HW.block ?_
    by_cases he : A.getD k zD = B.getD k zD
    · skip
      -- region 6
      repeat refine HW.seq ?_
      refine HW.draw mixed (by kernel_rfl) ?_
      refine HS.still (Runs.move f0) ?_
      intro u17 e17
      refine HS.still (Runs.move f5) ?_
      intro u18 e18
      refine HS.still (Runs.ixSl (o' := oa + k * 32) Try.underlying41 sz31 e17 e18 (by omega) (by omega) (by omega)) ?_
      intro u19 e19
      refine HS.still (Runs.loadAgg Try.underlying31 rfl sz31 e19 (encD_len (A.getD k zD)) ca) ?_
      intro u20 e20
      refine HS.still (Runs.move f1) ?_
      intro u21 e21
      refine HS.still (Runs.move f5) ?_
      intro u22 e22
      refine HS.still (Runs.ixSl (o' := ob + k * 32) Try.underlying41 sz31 e21 e22 (by omega) (by omega) (by omega)) ?_
      intro u23 e23
      refine HS.still (Runs.loadAgg Try.underlying31 rfl sz31 e23 (encD_len (B.getD k zD)) cb) ?_
      intro u24 e24
      refine HS.still (Runs.neqBytes Try.underlying31 Try.underlying5 sz5 eg31 e20 e24 (t := false) (A.getD k zD).2 (B.getD k zD).2 (by rw [he]; simp)) ?_
      intro u25 e25
      refine HS.nil ?_
      repeat refine HW.seq ?_
      refine HW.no ?_ ?_
      exact e25
      refine HW.skip ?_
      -- region 5
      repeat refine HW.seq ?_
      refine HW.region ?_
      refine HL.still (Runs.move f5) ?_
      intro u15 e15
      refine HL.still (Runs.add e15 rfl (i64w (by omega))) ?_
      intro u16 e16
      refine HL.still (Runs.assign e16) ?_
      intro u5 e5
      refine HL.nil ?_
      exact ⟨A.length - (k + 1), by omega, k + 1, by omega, rfl, e5, f0, f1, take_eq_step hlt (by omega) hpre he, rfl⟩
    · skip
      -- region 6
      repeat refine HW.seq ?_
      refine HW.draw mixed (by kernel_rfl) ?_
      refine HS.still (Runs.move f0) ?_
      intro u17 e17
      refine HS.still (Runs.move f5) ?_
      intro u18 e18
      refine HS.still (Runs.ixSl (o' := oa + k * 32) Try.underlying41 sz31 e17 e18 (by omega) (by omega) (by omega)) ?_
      intro u19 e19
      refine HS.still (Runs.loadAgg Try.underlying31 rfl sz31 e19 (encD_len (A.getD k zD)) ca) ?_
      intro u20 e20
      refine HS.still (Runs.move f1) ?_
      intro u21 e21
      refine HS.still (Runs.move f5) ?_
      intro u22 e22
      refine HS.still (Runs.ixSl (o' := ob + k * 32) Try.underlying41 sz31 e21 e22 (by omega) (by omega) (by omega)) ?_
      intro u23 e23
      refine HS.still (Runs.loadAgg Try.underlying31 rfl sz31 e23 (encD_len (B.getD k zD)) cb) ?_
      intro u24 e24
      refine HS.still (Runs.neqBytes Try.underlying31 Try.underlying5 sz5 eg31 e20 e24 (t := true) (A.getD k zD).2 (B.getD k zD).2 (by rw [beq_eq_false_iff_ne.2 (fun e => he (Subtype.ext e))]; rfl)) ?_
      intro u25 e25
      refine HS.nil ?_
      repeat refine HW.seq ?_
      refine HW.yes ?_ ?_
      exact e25
      -- region 7
      repeat refine HW.seq ?_
      refine HW.region ?_
      refine HL.still (Runs.assign rfl) ?_
      intro u4 e4
      refine HL.nil ?_
      refine HW.ret ?_
      exact RT.one rfl e4 ⟨by rw [beq_eq_false_iff_ne.2 (fun e => he (by rw [e]))], rfl⟩
  · have hkn : k = A.length := by omega
    subst hkn
    have hAB : A = B := by
      rw [List.take_of_length_le (Nat.le_refl _), hlen, List.take_of_length_le (Nat.le_refl _)] at hpre
      exact hpre
    -- region 4
    repeat refine HW.seq ?_
    refine HW.region ?_
    refine HL.still (Runs.move f5) ?_
    intro u11 e11
    refine HL.still (Runs.move f0) ?_
    intro u12 e12
    refine HL.still (Runs.lenSl rfl Try.underlying41 e12) ?_
    intro u13 e13
    refine HL.still (Runs.lss e11 e13 rfl) ?_
    intro u14 e14
    refine HL.nil ?_
    repeat refine HW.seq ?_
    refine HW.no ?_ ?_
    exact e14.trans (congrArg Value.bool (decide_eq_false (by omega)))
    refine HW.exitHere ?_
    -- region 8
    repeat refine HW.seq ?_
    refine HW.region ?_
    refine HL.still (Runs.assign rfl) ?_
    intro u4 e4
    refine HL.nil ?_
    refine HW.ret ?_
    exact RT.one rfl e4 ⟨by rw [hAB]; simp, rfl⟩
end Go.Proofs.Ytklelhfgbjpifaa
/-! Are blobs few? -/
namespace Go.Proofs.Ytklelhfgbjpifaa
set_option linter.unnecessarySimpa false
set_option linter.unusedSimpArgs false
set_option linter.unusedVariables false
open Go.RowKit
/-- How many bytes rows have. -/
def lens : List (Option Addr × Nat × List UInt8) → Nat
  | [] => 0
  | x :: l => x.2.2.length + lens l
theorem lens_append (l m : List (Option Addr × Nat × List UInt8)) : lens (l ++ m) = lens l + lens m := by
  induction l with
  | nil => simp [lens]
  | cons p l ih => rw [List.cons_append, lens, lens, ih]; omega
def fewO (l : List (Option Addr × Nat × List UInt8)) : Bool := decide (l.length ≤ 40) && decide (lens l ≤ 2000)
/-- A sum that may wrap round: as long as it does not it is told. -/
theorem lens_take (l : List (Option Addr × Nat × List UInt8)) {k : Nat} {b : Option Addr} {c : Nat} {xs : List UInt8} (hx : l[k]? = some (b, c, xs)) : lens (l.take (k + 1)) = lens (l.take k) + xs.length := by
  obtain ⟨hk, e⟩ := List.getElem?_eq_some_iff.1 hx
  rw [List.take_succ_eq_append_getElem hk, lens_append, e]
  simp [lens]
theorem lens_take_le (l : List (Option Addr × Nat × List UInt8)) (k : Nat) : lens (l.take k) ≤ lens l := by
  conv => rhs; rw [← List.take_append_drop k l, lens_append]
  omega
/-- The sum as Go adds it up: it may wrap round. -/
def wsum (l : List (Option Addr × Nat × List UInt8)) : Int := l.foldl (fun s x => IntKind.i64.wrap (s + x.2.2.length)) 0
theorem wsum_take (l : List (Option Addr × Nat × List UInt8)) {k : Nat} {b : Option Addr} {c : Nat} {xs : List UInt8} (hx : l[k]? = some (b, c, xs)) : wsum (l.take (k + 1)) = IntKind.i64.wrap (wsum (l.take k) + xs.length) := by
  obtain ⟨hk, e⟩ := List.getElem?_eq_some_iff.1 hx
  rw [List.take_succ_eq_append_getElem hk, wsum, List.foldl_append, e]
  rfl
theorem wsum_small (l : List (Option Addr × Nat × List UInt8)) (hz : ∀ x ∈ l, x.2.2.length ≤ 140737488355328) (hl : l.length ≤ 40) : wsum l = lens l := by
  have key : ∀ (m : List (Option Addr × Nat × List UInt8)) (s : Nat), (∀ x ∈ m, x.2.2.length ≤ 140737488355328) → s + m.length * 140737488355328 ≤ 9000000000000000000 → m.foldl (fun (s : Int) x => IntKind.i64.wrap (s + x.2.2.length)) (s : Int) = ((s + lens m : Nat) : Int) := by
    intro m
    induction m with
    | nil => intro s _ _; simp [lens]
    | cons x m ih =>
      intro s hz hs
      have hx := hz x (List.mem_cons_self ..)
      rw [List.length_cons] at hs
      have e1 : IntKind.i64.wrap ((s : Int) + (x.2.2.length : Nat)) = ((s + x.2.2.length : Nat) : Int) := by rw [i64w (by omega)]; omega
      rw [List.foldl_cons, e1, ih _ (fun y hy => hz y (List.mem_cons_of_mem _ hy)) (by omega), lens]
      congr 1
      omega
  have := key l 0 hz (by omega)
  rw [Nat.zero_add] at this
  exact this
set_option maxRecDepth 10000 in
theorem few_ch (h : Heap) (l : List (Option Addr × Nat × List UInt8)) (a : Option Addr) (n cap : Nat) (hn : n = l.length) (hB : Byts h a l) (hl : l.length ≤ maxLen) (hz : ∀ x ∈ l, x.2.2.length ≤ 140737488355328) : CH Try.prog 15 #[.slice a n cap] h fun v h' => v = .bool (fewO l) ∧ h' = h := by
  subst hn
  have hml : maxLen = 9223372036854775807 := rfl
  rw [hml] at hl
  refine CH.of_body Try.func15 rfl rfl rfl ?_
  intro f hf
  have p0 : f 0 = .slice a l.length cap := by rw [hf]; exact fr0_at rfl
  -- region 0
  repeat refine HW.seq ?_
  refine HW.region ?_
  refine HL.still (Runs.assign rfl) ?_
  intro u2 e2
  refine HL.nil ?_
  -- region 1
  repeat refine HW.seq ?_
  refine HW.region ?_
  refine HL.still (Runs.assign rfl) ?_
  intro u3 e3
  refine HL.nil ?_
  -- region 2
  repeat refine HW.seq ?_
  refine HW.region ?_
  refine HL.still (Runs.assign rfl) ?_
  intro u4 e4
  refine HL.nil ?_
  repeat refine HW.seq ?_
  refine HW.block ?_
  refine HW.loop (fun m f u => ∃ k : Nat, k ≤ l.length ∧ m = l.length - k ∧ f 4 = I64 k ∧ f 0 = .slice a l.length cap ∧ f 3 = I64 (wsum (l.take k)) ∧ u = h) l.length
    ⟨0, Nat.zero_le _, rfl, e4, p0, e3, rfl⟩ ?_
  clear e2 e3 e4
  rintro m f u ⟨k, hk, hm, f4, f0, f3, rfl⟩
  by_cases hlt : k < l.length
  · obtain ⟨sb, so, rfl, b1, c1, xs, hx, hcell, _, _⟩ := hB.at hlt
    have htt := wsum_take l hx
    -- region 3
    repeat refine HW.seq ?_
    refine HW.region ?_
    refine HL.still (Runs.move f4) ?_
    intro u5 e5
    refine HL.still (Runs.move f0) ?_
    intro u6 e6
    refine HL.still (Runs.lenSl rfl Try.underlying22 e6) ?_
    intro u7 e7
    refine HL.still (Runs.lss e5 e7 rfl) ?_
    intro u8 e8
    refine HL.nil ?_
    repeat refine HW.seq ?_
    refine HW.yes ?_ ?_
    exact e8.trans (congrArg Value.bool (decide_eq_true (by omega)))
    refine HW.skip ?_
    repeat refine HW.seq ?_
    refine HW.block ?_
    -- region 5
    repeat refine HW.seq ?_
    refine HW.region ?_
    refine HL.still (Runs.move f3) ?_
    intro u11 e11
    refine HL.still (Runs.move f0) ?_
    intro u12 e12
    refine HL.still (Runs.move f4) ?_
    intro u13 e13
    refine HL.still (Runs.ixSl (o' := so + k) Try.underlying22 sz29 e12 e13 (by omega) (by omega) (by omega)) ?_
    intro u14 e14
    refine HL.still (Runs.load Try.underlying29 rfl e14 hcell) ?_
    intro u15 e15
    refine HL.still (Runs.lenSl rfl Try.underlying29 e15) ?_
    intro u16 e16
    refine HL.still (Runs.add e11 e16 rfl) ?_
    intro u17 e17
    refine HL.still (Runs.assign e17) ?_
    intro u3 e3
    refine HL.nil ?_
    -- region 4
    repeat refine HW.seq ?_
    refine HW.region ?_
    refine HL.still (Runs.move f4) ?_
    intro u9 e9
    refine HL.still (Runs.add e9 rfl (i64w (by omega))) ?_
    intro u10 e10
    refine HL.still (Runs.assign e10) ?_
    intro u4 e4
    refine HL.nil ?_
    exact ⟨l.length - (k + 1), by omega, k + 1, by omega, rfl, e4, f0, e3.trans (congrArg (Value.int .i64) htt.symm), rfl⟩
  · have hkl : k = l.length := by omega
    subst hkl
    rw [List.take_of_length_le (Nat.le_refl _)] at f3
    -- region 3
    repeat refine HW.seq ?_
    refine HW.region ?_
    refine HL.still (Runs.move f4) ?_
    intro u5 e5
    refine HL.still (Runs.move f0) ?_
    intro u6 e6
    refine HL.still (Runs.lenSl rfl Try.underlying22 e6) ?_
    intro u7 e7
    refine HL.still (Runs.lss e5 e7 rfl) ?_
    intro u8 e8
    refine HL.nil ?_
    repeat refine HW.seq ?_
    refine HW.no ?_ ?_
    exact e8.trans (congrArg Value.bool (decide_eq_false (by omega)))
    refine HW.exitHere ?_
    -- region 6
    repeat refine HW.seq ?_
    refine HW.region ?_
    refine HL.still (Runs.move f0) ?_
    intro u18 e18
    refine HL.still (Runs.lenSl rfl Try.underlying22 e18) ?_
    intro u19 e19
    refine HL.still (Runs.leq e19 rfl (t := decide (l.length ≤ 40)) (decide_eq_decide.2 (by omega))) ?_
    intro u20 e20
    refine HL.still (Runs.move e20) ?_
    intro u21 e21
    refine HL.anyG rfl rfl e21 (fun hg => Runs.move f3) ?_
    intro u22 e22
    refine HL.anyG rfl rfl e21 (fun hg => Runs.leq (e22.trans (if_pos hg)) rfl (t := decide (wsum l ≤ 2000)) rfl) ?_
    intro u23 e23
    refine HL.still (Runs.pick e21 (and_pick e23)) ?_
    intro u24 e24
    refine HL.still (Runs.assign e24) ?_
    intro u2 e2
    refine HL.nil ?_
    refine HW.ret ?_
    refine RT.one rfl e2 ⟨?_, rfl⟩
    unfold fewO
    by_cases h40 : l.length ≤ 40
    · rw [wsum_small l hz h40]
      congr 2
      exact decide_eq_decide.2 (by omega)
    · rw [decide_eq_false h40]
      rfl
end Go.Proofs.Ytklelhfgbjpifaa
/-! Rows of digests that are owned; appends to these; rows of byte slices. -/
namespace Go.Proofs.Ytklelhfgbjpifaa
set_option linter.unnecessarySimpa false
set_option linter.unusedSimpArgs false
set_option linter.unusedVariables false
open Go.RowKit
/-- A slice of digests that is owned: it lies in a block from 'base' on, at its begin. -/
def Ds (h : Heap) (base : Nat) (a : Option Addr) (cap : Nat) (l : List Dg) : Prop := Own h base 31 32 (.slice a l.length cap) l.length (fl l) ∧ l.length ≤ cap
theorem Ds.blk {h : Heap} {base : Nat} {a : Option Addr} {cap : Nat} {l : List Dg} (x : Ds h base a cap l) : a = none ∧ l = [] ∨ ∃ g, a = some ⟨g, 0, none⟩ ∧ base ≤ g ∧ g < h.size := by
  rcases x.1.cases with ⟨h1, h2, h3⟩ | ⟨g, c, h1, h2, h3, h4, h5⟩
  · exact .inl ⟨(slice_inj h1).1, List.length_eq_zero_iff.1 h2⟩
  · obtain ⟨rfl, _, rfl⟩ := slice_inj h1
    exact .inr ⟨g, rfl, h2, (x.1.lt g rfl).2⟩
theorem fl_getD (l : List Dg) (j i : Nat) (hj : j < l.length) {v : Value} (hv : (encD (l.getD j zD))[i]? = some v) : (fl l)[j * 32 + i]? = some v := by
  have hi : i < 32 := by have := (List.getElem?_eq_some_iff.1 hv).1; rwa [encD_len] at this
  rw [fl_get l _ (by omega)]
  have h1 : (j * 32 + i) / 32 = j := by omega
  have h2 : (j * 32 + i) % 32 = i := by omega
  simp only [h1, h2]
  rw [← hv]
  simp [hj]
theorem fl_cell {l : List Dg} {t : Nat} {v : Value} (hv : (fl l)[t]? = some v) : t / 32 < l.length ∧ (encD (l.getD (t / 32) zD))[t % 32]? = some v := by
  have hlt := (List.getElem?_eq_some_iff.1 hv).1
  rw [fl_len] at hlt
  have hl : t / 32 < l.length := by omega
  refine ⟨hl, ?_⟩
  rw [fl_get l t hlt] at hv
  rw [← hv]
  simp [hl]
theorem Ds.dgs {h : Heap} {base : Nat} {a : Option Addr} {cap : Nat} {l : List Dg} (x : Ds h base a cap l) : Dgs h a l := by
  rcases x.1.cases with ⟨h1, h2, h3⟩ | ⟨g, c, h1, h2, h3, h4, h5⟩
  · exact .inl (List.length_eq_zero_iff.1 h2)
  · obtain ⟨rfl, _, rfl⟩ := slice_inj h1
    refine .inr ⟨g, 0, rfl, fun j hj i v hv => ?_⟩
    rw [Nat.zero_add]
    exact h5 _ _ (fl_getD l j i hj hv)
theorem Ds.ext {h h' : Heap} {base : Nat} {a : Option Addr} {cap : Nat} {l : List Dg} (x : Ds h base a cap l) (k : Ext h h') : Ds h' base a cap l := ⟨x.1.bel k, x.2⟩
theorem Ds.wr {h h' : Heap} {base : Nat} {a : Option Addr} {cap : Nat} {l : List Dg} {b : Nat} {o : Obj} (x : Ds h base a cap l) (k : Wr h h' b o) (hb : b < base) : Ds h' base a cap l :=
  ⟨x.1.keep fun j hj => k.old j (by have := (x.1.lt j hj).1; omega), x.2⟩
theorem Ds.lit {h h' : Heap} {base : Nat} {l : List Dg} (k : Nw h h' (.cells (fl l).toArray 31 (0, 0))) (hb : base ≤ h.size) (hl : l.length ≤ maxLen) : Ds h' base (some ⟨h.size, 0, none⟩) l.length l :=
  ⟨⟨fl_len l, .inr ⟨h.size, l.length, _, rfl, hb, k.new, Nat.le_refl _, hl, by simp [fl_len], by rw [List.take_of_length_le]; simp [fl_len]⟩⟩, Nat.le_refl _⟩
/-- The block, as it is. -/
theorem Ds.blkAt {h : Heap} {base : Nat} {g : Nat} {cap : Nat} {l : List Dg} (x : Ds h base (some ⟨g, 0, none⟩) cap l) : ∃ cur : List Value, h[g]? = some (.cells cur.toArray 31 (0, 0)) ∧ cur.length = cap * 32 ∧ cur.take (l.length * 32) = fl l := by
  rcases x.1.2 with ⟨h1, h2⟩ | ⟨g', cap', cur, h1, hb, hg, hn, hc, hs, ht⟩
  · cases (slice_inj h1).1
  · obtain ⟨e1, _, rfl⟩ := slice_inj h1
    cases e1
    exact ⟨cur.toList, hg, by simpa using hs, by simpa using ht⟩
theorem Ds.capLe {h : Heap} {base : Nat} {a : Option Addr} {cap : Nat} {l : List Dg} (x : Ds h base a cap l) : cap ≤ maxLen := by
  rcases x.1.cases with ⟨h1, h2, h3⟩ | ⟨g, c, h1, h2, h3, h4, h5⟩
  · rw [(slice_inj h1).2.2]; exact Nat.zero_le _
  · rw [(slice_inj h1).2.2]; exact h4
theorem Ds.of_blk {h : Heap} {base : Nat} {g : Nat} {cap : Nat} {l : List Dg} {cur : List Value} (hb : h[g]? = some (.cells cur.toArray 31 (0, 0))) (hl : cur.length = cap * 32) (ht : cur.take (l.length * 32) = fl l) (hg : base ≤ g) (hn : l.length ≤ cap) (hc : cap ≤ maxLen) : Ds h base (some ⟨g, 0, none⟩) cap l :=
  ⟨⟨fl_len l, .inr ⟨g, cap, cur.toArray, rfl, hg, hb, hn, hc, by simpa using hl, by simpa using ht⟩⟩, hn⟩
theorem Ds.low {h : Heap} {base base' : Nat} {a : Option Addr} {cap : Nat} {l : List Dg} (x : Ds h base a cap l) (hb : base' ≤ base) : Ds h base' a cap l := by
  rcases x.blk with ⟨rfl, rfl⟩ | ⟨g, rfl, hg, _⟩
  · refine ⟨?_, x.2⟩
    rcases x.1.cases with ⟨h1, h2, h3⟩ | ⟨g, c, h1, h2, _⟩
    · rw [h1]; exact Own.nil h base' 31 32
    · have := (slice_inj h1).1
      cases this
  · obtain ⟨cur, h1, h2, h3⟩ := x.blkAt
    exact Ds.of_blk h1 h2 h3 (by omega) x.2 x.capLe
theorem GrA.belD {N base : Nat} {h0 h h' : Heap} {a : Option Addr} {cap : Nat} {l : List Dg} (k : GrA h h' a) (x : Bel N h0 h) (y : Ds h base a cap l) (hb : N ≤ base) (hN : N ≤ h0.size) : Bel N h0 h' := by
  refine Bel.gr x k hN fun j hj => ?_
  have := (y.1.lt j (by cases a <;> exact hj)).1
  omega
theorem Dgs.take {h : Heap} {a : Option Addr} {l : List Dg} (x : Dgs h a l) (n : Nat) : Dgs h a (l.take n) := by
  rcases x with rfl | ⟨sb, so, ha, hc⟩
  · exact .inl (by simp)
  · refine .inr ⟨sb, so, ha, fun j hj i v hv => ?_⟩
    have hj' : j < l.length ∧ j < n := by rw [List.length_take] at hj; omega
    refine hc j hj'.1 i v ?_
    rw [← hv, List.getD_eq_getElem?_getD, List.getD_eq_getElem?_getD, List.getElem?_take, if_pos hj'.2]
theorem Dgs.drop {h : Heap} {a a' : Option Addr} {l : List Dg} {cap : Nat} (x : Dgs h a l) (k : Nat) (hc : l.length ≤ cap) (hk : k ≤ l.length) (ha : (if cap = k then a else a.map (·.add (k * 32))) = a') : Dgs h a' (l.drop k) := by
  subst ha
  by_cases hl : k = l.length
  · exact .inl (List.drop_of_length_le (by omega))
  · rcases x with rfl | ⟨sb, so, ha, hcell⟩
    · exact .inl (by simp)
    · rw [if_neg (by omega)]
      subst ha
      refine .inr ⟨sb, so + k * 32, by rw [Option.map_some, addr_add], fun j hj i v hv => ?_⟩
      rw [List.length_drop] at hj
      rw [show so + k * 32 + j * 32 + i = so + (k + j) * 32 + i by omega]
      refine hcell (k + j) (by omega) i v ?_
      rw [← hv, List.getD_eq_getElem?_getD, List.getD_eq_getElem?_getD, List.getElem?_drop]
theorem in31 : (Try.prog.info? 31).map (fun i => (i.zero, i.size, i.bytes)) = some (some (.agg ((List.replicate 32 (0 : UInt8)).map B8).toArray), 32, 32) := by kernel_rfl
theorem encD_one (x : Dg) : ∀ v ∈ encD x, v.oneCell' = true := one_map B8 (fun _ => rfl) _
theorem fl_one (l : List Dg) : ∀ v ∈ fl l, v.oneCell' = true := fun v hv => by
  obtain ⟨x, _, hx⟩ := List.mem_flatMap.1 hv
  exact encD_one x v hx
section
variable {ρ : Operand → Value} {h : Heap} {d : Option Tmp} {ty : TypeId} {pos : String} {af : Array Edge} {gd : Option (Nat × Bool)} {K : Value → Heap → Prop} {x y : Operand}
/-- Append digests to a slice of these that is owned. -/
theorem HO.dapp {base : Nat} {a sa : Option Addr} {cap sc m n : Nat} {l ys : List Dg} (hx : ρ x = .slice a n cap) (hy : ρ y = .slice sa m sc) (hn : n = l.length) (hm : m = ys.length) (hown : Ds h base a cap l) (hsrc : Dgs h sa ys) (hlen : (l.length + ys.length) * 32 ≤ 140737488355328) (hbase : base ≤ h.size)
    (k : ∀ a' cap' h', Ds h' base a' cap' (l ++ ys) → GrA h h' a → K (.slice a' (l ++ ys).length cap') h') : HO Try.prog ⟨d, .call { callee := .builtin .append, args := #[x, y], argTypes := #[41, 41] }, ty, pos, af, gd⟩ ρ h K := by
  subst hn
  subst hm
  have hml : l.length + ys.length ≤ maxLen := Nat.le_trans (by omega : l.length + ys.length ≤ 140737488355328) (by decide)
  rcases hsrc with hnil | ⟨sb, so, hsa, hc⟩
  · subst hnil
    intro w hw
    subst hw
    cases hq : Try.prog.info? 31 with
    | none => have := in31; rw [hq] at this; cases this
    | some i =>
      have hs : Go.Src Try.prog i.size 41 (.slice sa 0 sc) 0 [] w := ⟨.inl ⟨31, Try.underlying41⟩, fun w' => rfl, by cases sa <;> simp [Builtin.firstCells, loadCells] <;> rfl, by cases sa <;> simp [Builtin.firstCells, loadCells] <;> rfl, by simp, by simp⟩
      have h1 := run_append_nothing w 41 41 ty 31 i Try.underlying41 hq a l.length cap hown.2 (.slice sa 0 sc) hs
      have : (execOp ρ ⟨d, .call { callee := .builtin .append, args := #[x, y], argTypes := #[41, 41] }, ty, pos, af, gd⟩).run Try.prog w = .ok (.value (.slice a l.length cap)) w := by
        simp [BigFrame.execOp_builtin, BigFrame.builtin_append, hx, hy, Sem.run_bind] at h1 ⊢
        rw [h1]
        rfl
      rw [this]
      refine ⟨Rest.refl _, ?_⟩
      have := k a cap w.heap (by simpa using hown) ⟨Nat.le_refl _, fun _ _ _ => rfl⟩
      simpa using this
  · subst hsa
    have hown1 := hown.1
    refine HO.append (news := fl ys) Try.underlying41 in31 (by simp [Value.cells]) (by decide) hx hy hown1 (fl_len ys) (fun j u hj => ?_) (fl_one ys) hml (by simpa using hlen) hbase fun v' h' o g hat => ?_
    · obtain ⟨hj1, hj2⟩ := fl_cell hj
      have := hc _ hj1 _ _ hj2
      rwa [show so + j / 32 * 32 + j % 32 = so + j by omega] at this
    · have hg : GrA h h' a := by cases a <;> exact g
      rw [← fl_append] at o
      rcases o.cases with ⟨h1, h2, h3⟩ | ⟨g', c, h1, h2, h3, h4, h5⟩
      · have he : l ++ ys = [] := List.length_eq_zero_iff.1 (by rw [List.length_append]; exact h2)
        subst h1
        have := k none 0 h' ⟨by rw [he]; exact Own.nil _ _ _ _, by rw [he]; exact Nat.le_refl _⟩ hg
        rw [he] at this
        exact this
      · subst h1
        have := k (some ⟨g', 0, none⟩) c h' ⟨by rw [List.length_append]; exact o, by simpa using h3⟩ hg
        rw [List.length_append] at this
        exact this
theorem fold_get (l : List Value) : ∀ (k : Nat) (cs : Array Value) (i : Nat), k + l.length ≤ cs.size → ((l.zipIdx k).foldl (fun (cs : Array Value) (p : Value × Nat) => cs.setIfInBounds (0 + p.2) p.1) cs)[i]? = if k ≤ i ∧ i < k + l.length then l[i - k]? else cs[i]? := by
  induction l with
  | nil => intro k cs i _; simp; omega
  | cons v l ih =>
    intro k cs i hk
    rw [List.length_cons] at hk
    rw [List.zipIdx_cons, List.foldl_cons, ih (k + 1) _ i (by simp; omega)]
    by_cases h1 : i = k
    · subst h1
      rw [if_neg (by omega), if_pos (by simp), Nat.sub_self, Nat.zero_add, Array.getElem?_setIfInBounds, if_pos rfl, if_pos (by omega)]
      rfl
    · by_cases h2 : k + 1 ≤ i ∧ i < k + 1 + l.length
      · rw [if_pos h2, if_pos (by rw [List.length_cons]; omega), show i - k = i - (k + 1) + 1 by omega, List.getElem?_cons_succ]
      · rw [if_neg h2, if_neg (by rw [List.length_cons]; omega), Array.getElem?_setIfInBounds, if_neg (by omega)]
theorem fill_one (x : Dg) (cs : Array Value) (hc : cs.size = 32) : Instr.fill (fun i => some (i * 32, 32)) cs [(0, keyV x)] = some (encD x).toArray := by
  have hs : (keyV x).cells.size = 32 := by show (encD x).toArray.size = 32; rw [List.size_toArray, encD_len]
  unfold Instr.fill
  simp only [Nat.zero_mul]
  rw [if_neg (by rw [hs, hc]; decide)]
  unfold Instr.fill
  congr 1
  apply Array.ext_getElem?
  intro i
  rw [← Array.foldl_toList, Array.toList_zipIdx]
  have hl : (keyV x).cells.toList = encD x := rfl
  rw [hl]
  have := fold_get (encD x) 0 cs i (by rw [encD_len, hc]; decide)
  refine this.trans ?_
  rw [show (encD x).toArray[i]? = (encD x)[i]? from List.getElem?_toArray ..]
  by_cases hi : i < 32
  · rw [if_pos ⟨Nat.zero_le _, by rw [encD_len]; omega⟩, Nat.sub_zero]
  · rw [if_neg (by rw [encD_len]; omega), Array.getElem?_eq_none (by omega), List.getElem?_eq_none (by rw [encD_len]; omega)]
theorem zero31 (w : World) : (zeroValue 31).run Try.prog w = .ok (.agg ((List.replicate 32 (0 : UInt8)).map B8).toArray) w := by kernel_rfl
theorem run_dgs1 (x : Dg) (w : World) : (Instr.buildSlice 41 1 #[(0, keyV x)]).run Try.prog w = .ok (.slice (some ⟨w.heap.size, 0, none⟩) 1 1) (w.alloc (.cells (fl [x]).toArray 31)) := by
  have e1 : (fl [x]).toArray = (encD x).toArray := by unfold fl; simp
  rw [e1]
  cases hq : Try.prog.info? 31 with
  | none => have := in31; rw [hq] at this; cases this
  | some ie =>
    have h := in31
    rw [hq] at h
    simp only [Option.map_some, Option.some.injEq, Prod.mk.injEq] at h
    obtain ⟨hz, hs, _⟩ := h
    refine run_buildSlice w 41 31 1 _ _ ie _ Try.underlying41 hq hz (by rw [hs]; decide) (by rw [hs]; decide) ?_
    rw [hs]
    exact fill_one x _ (by simp)
theorem run_dgs0 (w : World) : (Instr.buildSlice 41 0 #[]).run Try.prog w = .ok (.slice (some ⟨w.heap.size, 0, none⟩) 0 0) (w.alloc (.cells (fl []).toArray 31)) := by kernel_rfl
set_option maxRecDepth 10000 in
theorem HO.dgs0 (k : ∀ h', Nw h h' (.cells (fl []).toArray 31 (0, 0)) → K (.slice (some ⟨h.size, 0, none⟩) 0 0) h') : HO Try.prog ⟨d, .buildSlice 41 0 #[], ty, pos, af, gd⟩ ρ h K :=
  HO.buildSlice (fun w => by
    have e : (#[] : Array (Nat × Operand)).map (fun (i, x) => (i, ρ x)) = #[] := by simp
    rw [e]
    exact run_dgs0 w) k
set_option maxRecDepth 10000 in
theorem HO.dgs1 (q : Dg) (hx : ρ x = keyV q) (k : ∀ h', Nw h h' (.cells (fl [q]).toArray 31 (0, 0)) → K (.slice (some ⟨h.size, 0, none⟩) 1 1) h') : HO Try.prog ⟨d, .buildSlice 41 1 #[(0, x)], ty, pos, af, gd⟩ ρ h K :=
  HO.buildSlice (fun w => by
    have e : (#[(0, x)] : Array (Nat × Operand)).map (fun (i, x) => (i, ρ x)) = #[(0, keyV q)] := by simp [hx]
    rw [e]
    exact run_dgs1 q w) k
/-- A row of byte slices: what a cell holds. -/
def gvB (x : Option Addr × Nat × List UInt8) : Value := .slice x.1 x.2.2.length x.2.1
def zB : Option Addr × Nat × List UInt8 := (none, 0, [])
theorem run_rows0 (w : World) : (Instr.buildSlice 22 0 #[]).run Try.prog w = .ok (.slice (some ⟨w.heap.size, 0, none⟩) 0 0) (w.alloc (.cells ([].map gvB).toArray 29)) := by kernel_rfl
set_option maxRecDepth 10000 in
theorem HO.rows0 (k : ∀ h', Nw h h' (.cells ([].map gvB).toArray 29 (0, 0)) → K (.slice (some ⟨h.size, 0, none⟩) 0 0) h') : HO Try.prog ⟨d, .buildSlice 22 0 #[], ty, pos, af, gd⟩ ρ h K :=
  HO.buildSlice (fun w => by
    have e : (#[] : Array (Nat × Operand)).map (fun (i, x) => (i, ρ x)) = #[] := by simp
    rw [e]
    exact run_rows0 w) k
theorem run_rows1 (a : Option Addr) (n c : Nat) (w : World) : (Instr.buildSlice 22 1 #[(0, .slice a n c)]).run Try.prog w = .ok (.slice (some ⟨w.heap.size, 0, none⟩) 1 1) (w.alloc (.cells [Value.slice a n c].toArray 29)) := by kernel_rfl
set_option maxRecDepth 10000 in
theorem HO.rows1 (q : Option Addr × Nat × List UInt8) (hx : ρ x = gvB q) (k : ∀ h', Nw h h' (.cells ([q].map gvB).toArray 29 (0, 0)) → K (.slice (some ⟨h.size, 0, none⟩) 1 1) h') : HO Try.prog ⟨d, .buildSlice 22 1 #[(0, x)], ty, pos, af, gd⟩ ρ h K :=
  HO.buildSlice (fun w => by
    have e : (#[(0, x)] : Array (Nat × Operand)).map (fun (i, x) => (i, ρ x)) = #[(0, gvB q)] := by simp [hx]
    rw [e]
    exact run_rows1 _ _ _ w) k
theorem in29 : (Try.prog.info? 29).map (fun i => (i.zero, i.size, i.bytes)) = some (some (.slice none 0 0), 1, 24) := by kernel_rfl
theorem one29 (q : Option Addr × Nat × List UInt8) : (gvB q).oneCell' = true := rfl
theorem byts_row {h : Heap} {a : Option Addr} {l : List (Option Addr × Nat × List UInt8)} : Byts h a l ↔ Row gvB zB h a l ∧ (l = [] ∨ ∀ x ∈ l, Byt h x.1 x.2.2 ∧ x.2.2.length ≤ x.2.1) := by
  constructor
  · rintro (rfl | ⟨sb, so, h1, h2⟩)
    · exact ⟨.inl rfl, .inl rfl⟩
    · refine ⟨.inr ⟨sb, so, h1, fun j hj => ?_⟩, .inr fun x hx => ?_⟩
      · have := (h2 j (l.getD j zB) (by simp [hj])).1
        exact this
      · obtain ⟨j, hj⟩ := List.mem_iff_getElem?.1 hx
        exact (h2 j x hj).2
  · rintro ⟨rfl | ⟨sb, so, h1, h2⟩, h3⟩
    · exact .inl rfl
    · rcases h3 with rfl | h3
      · exact .inl rfl
      · refine .inr ⟨sb, so, h1, fun r x hx => ⟨?_, h3 x (List.mem_iff_getElem?.2 ⟨r, hx⟩)⟩⟩
        obtain ⟨hr, e⟩ := List.getElem?_eq_some_iff.1 hx
        have := h2 r hr
        rw [List.getD_eq_getElem?_getD, hx] at this
        exact this
end
end Go.Proofs.Ytklelhfgbjpifaa
/-! The document's store: Put. -/
namespace Go.Proofs.Ytklelhfgbjpifaa
set_option linter.unnecessarySimpa false
set_option linter.unusedSimpArgs false
set_option linter.unusedVariables false
open Go.RowKit
/-- What a Put of the document's leaves, and answers. -/
def putRO (room : Int) (M : List (Dg × List UInt8)) (xs : List UInt8) : List (Dg × List UInt8) × Dg × Int :=
  if hitO M (shaD xs) = true then (M, shaD xs, 0) else if (tot M : Int) + xs.length > room then (M, zD, 2) else (M.take (placeO (M.map (·.1)) (shaD xs)) ++ (shaD xs, xs) :: M.drop (placeO (M.map (·.1)) (shaD xs)), shaD xs, 0)
theorem Row.keep {α : Type} {gv : α → Value} {z0 : α} {h h' : Heap} {a : Option Addr} {xs : List α} (x : Row gv z0 h a xs) (k : ∀ sb so, a = some ⟨sb, so, none⟩ → h'[sb]? = h[sb]?) : Row gv z0 h' a xs := by
  rcases x with x | ⟨sb, so, h1, h2⟩
  · exact .inl x
  · exact .inr ⟨sb, so, h1, fun j hj => by rw [cellH_keep (k sb so h1)]; exact h2 j hj⟩
def isC (l : List Nat) (i : Nat) : Bool := l.any (Nat.beq i)
abbrev C8 : Nat → Bool := fun i => i == 3 || i == 4 || i == 11 || i == 14
abbrev C10 : Nat → Bool := fun i => i == 2 || i == 4 || i == 5 || i == 6 || i == 13 || i == 16
theorem dgs_block {h : Heap} {b : Nat} {l : List Dg} {t : TypeId} {fr : Nat × Nat} (hb : h[b]? = some (.cells (fl l).toArray t fr)) : Dgs h (some ⟨b, 0, none⟩) l :=
  .inr ⟨b, 0, rfl, fun j hj i v hv => by rw [Nat.zero_add, cellH_of hb, List.getElem?_toArray]; exact fl_getD l j i hj hv⟩
/-- Owned slices of two types lie apart. -/
theorem own_ne {h : Heap} {b1 b2 : Nat} {e1 e2 : TypeId} {s1 s2 : Nat} {v1 v2 : Value} {n1 n2 : Nat} {x1 x2 : List Value} (o1 : Own h b1 e1 s1 v1 n1 x1) (o2 : Own h b2 e2 s2 v2 n2 x2) (hne : e1 ≠ e2) : v1.ownBlock = none ∨ v1.ownBlock ≠ v2.ownBlock := by
  rcases o1.2 with ⟨q1, _⟩ | ⟨g1, c1, cur1, q1, _, hg1, _⟩
  · left; rw [q1]; rfl
  · right
    rcases o2.2 with ⟨q2, _⟩ | ⟨g2, c2, cur2, q2, _, hg2, _⟩
    · rw [q1, q2]; intro e; cases e
    · rw [q1, q2]
      intro e
      have e : g1 = g2 := by cases e; rfl
      subst e
      have h1 : h[g1]? = some (.cells cur1 e1 (0, 0)) := hg1
      have h2 : h[g1]? = some (.cells cur2 e2 (0, 0)) := hg2
      rw [h1] at h2
      cases h2
      exact hne rfl
theorem Bs.gr {h h' : Heap} {b1 b2 : Nat} {a : Option Addr} {c : Nat} {xs : List UInt8} {a2 : Option Addr} {c2 : Nat} {l : List (Option Addr × Nat × List UInt8)} (x : Bs h b1 5 a c xs) (y : Rs gvB h b2 29 a2 c2 l) (k : GrA h h' a2) : Bs h' b1 5 a c xs := by
  refine ⟨x.1.gr k ?_, x.2⟩
  have := own_ne x.1 y.1 (by decide)
  rcases this with q | q
  · exact .inl q
  · right; cases a2 <;> exact q
theorem Rs.gr29 {h h' : Heap} {b1 b2 : Nat} {a : Option Addr} {c : Nat} {xs : List UInt8} {a2 : Option Addr} {c2 : Nat} {l : List (Option Addr × Nat × List UInt8)} (y : Rs gvB h b2 29 a2 c2 l) (x : Bs h b1 5 a c xs) (k : GrA h h' a) : Rs gvB h' b2 29 a2 c2 l := by
  refine ⟨y.1.gr k ?_, y.2⟩
  have := own_ne y.1 x.1 (by decide)
  rcases this with q | q
  · exact .inl q
  · right; cases a <;> exact q
theorem usedRx_ch {F : Nat → Prop} (h : Heap) (s : Nat) (room : Int) (M : List (Dg × List UInt8)) (hR : Rst F h s room M) (ht : tot M ≤ 1000000000) (hl : M.length ≤ 1000000) : CH Try.prog 27 #[.pointer (some ⟨s, 0, none⟩)] h fun v h' => v = I64 (tot M : Int) ∧ Ext h h' :=
  (usedR_ch h s room M hR ht hl).mono fun _ _ q => ⟨q.1, q.2 ▸ Bel.refl _ _⟩
theorem sz27 : (Try.prog.info? 27).map (·.size) = some 1 := by kernel_rfl
set_option maxRecDepth 10000 in
set_option maxHeartbeats 1000000 in
theorem putR_ch {F : Nat → Prop} (h : Heap) (s : Nat) (room : Int) (M : List (Dg × List UInt8)) (xs : List UInt8) (a : Option Addr) (cap : Nat) (hR : Rst F h s room M) (hsrc : Byt h a xs) (hcap : xs.length ≤ cap) (hlen : xs.length ≤ 100000) (ht : tot M ≤ 1000000000) (hl : M.length ≤ 1000000) :
    CH Try.prog 19 #[.pointer (some ⟨s, 0, none⟩), .slice a xs.length cap] h fun v h' => v = .tuple #[keyV (putRO room M xs).2.1, I64 (putRO room M xs).2.2] ∧ Rst (fun j => F j ∨ h.size ≤ j) h' s room (putRO room M xs).1 ∧ ExB s h h' := by
  refine CH.of_body Try.func19 rfl rfl rfl ?_
  intro f hf
  have p0 : f 0 = .pointer (some ⟨s, 0, none⟩) := by rw [hf]; exact fr0_at rfl
  have p1 : f 1 = .slice a xs.length cap := by rw [hf]; exact fr0_at rfl
  -- region 0
  repeat refine HW.seq ?_
  refine HW.region ?_
  refine HL.one (HO.alloc zr31 ?_)
  intro h4 w4
  intro u4 e4
  refine HL.still (Runs.assign rfl) ?_
  intro u5 e5
  refine HL.nil ?_
  have z4 := w4.size
  -- region 1
  repeat refine HW.seq ?_
  refine HW.region ?_
  refine HL.still (Runs.move p1) ?_
  intro u11 e11
  refine HL.one (HO.call Try.func20 bd20 nm20 (args1 e11) rfl ((rsum_ch _ xs a cap (hsrc.ext w4.ext) (by omega)).mono ?_))
  rintro _ h2 ⟨rfl, X2⟩
  intro u12 e12
  refine HL.one (HO.alloc zr31 ?_)
  intro h3 w3
  intro u6 e6
  refine HL.zero (HO.storeAll sz31 e6 e12 (one_map B8 (fun _ => rfl) _) w3.new (by rw [List.length_map, SHA_len]) rfl ?_)
  intro h5 w5
  refine HL.nil ?_
  have z2 := X2.size
  have z3 := w3.size
  have z5 := w5.size
  have XA : Ext h h5 := ((w4.ext.ext X2 (Nat.le_refl _)).ext w3.ext (Nat.le_refl _)).wr w5 (by omega)
  have hR5 := hR.ext XA
  have hk5 : h5[h2.size]? = some (.cells (encD (shaD xs)).toArray 31 (0, 0)) := w5.new
  have hr5 : h5[h.size]? = some (.cells ((List.replicate 32 (0 : UInt8)).map B8).toArray 31 (0, 0)) := (w5.old _ (by omega)).trans ((w3.keep (X2.keepE w4.new)))
  -- region 2
  repeat refine HW.seq ?_
  refine HW.region ?_
  refine HL.still (Runs.move p0) ?_
  intro u14 e14
  refine HL.still (Runs.loadAgg Try.underlying31 rfl sz31 e6 (encD_len (shaD xs)) (load_blk hk5)) ?_
  intro u15 e15
  refine HL.one (HO.call Try.func47 bd47 nm47 (args2 e14 e15) rfl ((place_ch h5 s room M (shaD xs) hR5 hl).mono ?_))
  rintro _ h6 ⟨rfl, X6⟩
  intro u16 e16
  refine HL.still (Runs.move e16) ?_
  intro u13 e13
  refine HL.still (Runs.extr e13 rfl) ?_
  intro u17 e17
  refine HL.still (Runs.extr e13 rfl) ?_
  intro u18 e18
  refine HL.still (Runs.assign e17) ?_
  intro u7 e7
  refine HL.still (Runs.assign e18) ?_
  intro u8 e8
  refine HL.nil ?_
  have g7 : u7 = I64 (placeO (M.map (·.1)) (shaD xs) : Int) := e7
  have g8 : u8 = .bool (hitO M (shaD xs)) := e8
  have z6 := X6.size
  have XB : Ext h h6 := XA.ext X6 (Nat.le_refl _)
  have hR6 := hR5.ext X6
  have hk6 := X6.keepE hk5
  have hr6 := X6.keepE hr5
  -- region 3
  repeat refine HW.seq ?_
  refine HW.region ?_
  refine HL.still (Runs.move g8) ?_
  intro u19 e19
  refine HL.nil ?_
  cases hq : hitO M (shaD xs) with
  | true =>
    have hp : putRO room M xs = (M, shaD xs, 0) := by unfold putRO; rw [if_pos hq]
    refine HW.yes (e19.trans (congrArg Value.bool hq)) ?_
    -- region 4
    repeat refine HW.seq ?_
    refine HW.region ?_
    refine HL.still (Runs.loadAgg Try.underlying31 rfl sz31 e6 (encD_len (shaD xs)) (load_blk hk6)) ?_
    intro u20 e20
    refine HL.zero (HO.storeAll sz31 e4 e20 (one_map B8 (fun _ => rfl) _) hr6 (encD_len _) (by simp) ?_)
    intro h7 w7
    refine HL.still (Runs.assign rfl) ?_
    intro u5 e5
    refine HL.nil ?_
    refine HW.ret ?_
    exact RT.cellTmp rfl e4 e5 w7.new Try.underlying31 rfl sz31 (encD_len _) ⟨by rw [hp]; rfl, by rw [hp]; exact (hR.ext (XB.wr w7 (Nat.le_refl _))).weaken fun _ _ q => .inl q, .of_ext (XB.wr w7 (Nat.le_refl _))⟩
  | false =>
    refine HW.no (e19.trans (congrArg Value.bool hq)) ?_
    refine HW.skip ?_
    have hq' : ¬ hitO M (shaD xs) = true := by rw [hq]; decide
    obtain ⟨ka, kc, ba, bc, l, hs0, hK0, hkc, hB0, hbc, hlM, hFs, hLk, hLb, hLl⟩ := id hR
    have hs6 := XB.keepE hs0
    have hsl := hR.lt
    have hXs := XB.size
    by_cases hfull : (tot M : Int) + xs.length > room
    · have hp : putRO room M xs = (M, zD, 2) := by unfold putRO; rw [if_neg hq', if_pos hfull]
      -- region 5
      repeat refine HW.seq ?_
      refine HW.grow #[0, 1, 0, 4, 15, 0, 32, 96, 224, 511] (Mk h6.size) mixed (by kernel_rfl) (Mk.refl _) Mk.trans ?_
      refine HM.still (Mk.refl _) (fun f h K => Runs.move ((K.keep (by kernel_rfl)).trans p0)) ?_
      refine HM.one (fun x _ => x = _) (fun _ _ _ _ e => e) (fun f h K => HO.call Try.func27 bd27 nm27 (args1 (K.at 0 21 rfl rfl)) rfl ((usedRx_ch h s room M (hR6.ext K.grown.bel) ht hl).mono fun _ _ q => ⟨Mk.of_ext q.2 K.grown.size, q.1⟩)) ?_
      refine HM.still (Mk.refl _) (fun f h K => Runs.move ((K.keep (by kernel_rfl)).trans p1)) ?_
      refine HM.still (Mk.refl _) (fun f h K => Runs.lenSl rfl Try.underlying29 (K.at 2 23 rfl rfl)) ?_
      refine HM.still (Mk.refl _) (fun f h K => Runs.add (K.at 1 22 rfl rfl) (K.at 3 24 rfl rfl) (i64w (by omega))) ?_
      refine HM.still (Mk.refl _) (fun f h K => Runs.move ((K.keep (by kernel_rfl)).trans p0)) ?_
      refine HM.still (Mk.refl _) (fun f h K => Runs.nilc (K.at 5 26 rfl rfl)) ?_
      refine HM.still (Mk.refl _) (fun f h K => Runs.fld (o' := 2) Try.underlying43 rfl sz3 (by decide) (K.at 6 27 rfl rfl) (by rfl)) ?_
      refine HM.still (Mk.refl _) (fun f h K => Runs.load Try.underlying3 rfl (K.at 7 28 rfl rfl) (K.grown.cell (by rw [cellH_of hs6]; rfl))) ?_
      refine HM.still (Mk.refl _) (fun f h K => Runs.gtr (K.at 4 25 rfl rfl) (K.at 8 29 rfl rfl) (t := true) (decide_eq_true hfull)) ?_
      intro f' h7 hR2 V O
      have hE : Ext h6 h7 := hR2.bel
      have q4 := (last_keep O (s := 4) (by kernel_rfl)).trans e4
      have g30 : f' 30 = .bool true := last_at V 9 30 rfl
      have hr7 := hE.keepE hr6
      refine HW.yes g30 ?_
      -- region 6
      repeat refine HW.seq ?_
      refine HW.region ?_
      refine HL.still (Runs.buildZ31) ?_
      intro u31 e31
      refine HL.zero (HO.storeAll sz31 q4 e31 (one_map B8 (fun _ => rfl) _) hr7 rfl (by simp) ?_)
      intro h8 w8
      refine HL.still (Runs.assign rfl) ?_
      intro u5 e5
      refine HL.nil ?_
      refine HW.ret ?_
      have XC := (XB.ext hE (Nat.le_refl _)).wr w8 (Nat.le_refl _)
      exact RT.cellTmp rfl q4 e5 w8.new Try.underlying31 rfl sz31 rfl ⟨by rw [hp]; rfl, by rw [hp]; exact (hR.ext XC).weaken fun _ _ q => .inl q, .of_ext XC⟩
    · have hpl := placeO_le (M.map (·.1)) (shaD xs)
      rw [List.length_map] at hpl
      have hp : putRO room M xs = (M.take (placeO (M.map (·.1)) (shaD xs)) ++ (shaD xs, xs) :: M.drop (placeO (M.map (·.1)) (shaD xs)), shaD xs, 0) := by unfold putRO; rw [if_neg hq', if_neg hfull]
      rw [hp]
      obtain ⟨i, hi⟩ : ∃ i, i = placeO (M.map (·.1)) (shaD xs) := ⟨_, rfl⟩
      rw [← hi] at hpl g7 ⊢
      clear hp hi hq hq'
      -- region 5
      repeat refine HW.seq ?_
      refine HW.grow #[0, 1, 0, 4, 15, 0, 32, 96, 224, 511] (Mk h6.size) mixed (by kernel_rfl) (Mk.refl _) Mk.trans ?_
      refine HM.still (Mk.refl _) (fun f h K => Runs.move ((K.keep (by kernel_rfl)).trans p0)) ?_
      refine HM.one (fun x _ => x = _) (fun _ _ _ _ e => e) (fun f h K => HO.call Try.func27 bd27 nm27 (args1 (K.at 0 21 rfl rfl)) rfl ((usedRx_ch h s room M (hR6.ext K.grown.bel) ht hl).mono fun _ _ q => ⟨Mk.of_ext q.2 K.grown.size, q.1⟩)) ?_
      refine HM.still (Mk.refl _) (fun f h K => Runs.move ((K.keep (by kernel_rfl)).trans p1)) ?_
      refine HM.still (Mk.refl _) (fun f h K => Runs.lenSl rfl Try.underlying29 (K.at 2 23 rfl rfl)) ?_
      refine HM.still (Mk.refl _) (fun f h K => Runs.add (K.at 1 22 rfl rfl) (K.at 3 24 rfl rfl) (i64w (by omega))) ?_
      refine HM.still (Mk.refl _) (fun f h K => Runs.move ((K.keep (by kernel_rfl)).trans p0)) ?_
      refine HM.still (Mk.refl _) (fun f h K => Runs.nilc (K.at 5 26 rfl rfl)) ?_
      refine HM.still (Mk.refl _) (fun f h K => Runs.fld (o' := 2) Try.underlying43 rfl sz3 (by decide) (K.at 6 27 rfl rfl) (by rfl)) ?_
      refine HM.still (Mk.refl _) (fun f h K => Runs.load Try.underlying3 rfl (K.at 7 28 rfl rfl) (K.grown.cell (by rw [cellH_of hs6]; rfl))) ?_
      refine HM.still (Mk.refl _) (fun f h K => Runs.gtr (K.at 4 25 rfl rfl) (K.at 8 29 rfl rfl) (t := false) (decide_eq_false hfull)) ?_
      intro f' h7 hR2 V O
      have hE : Ext h6 h7 := hR2.bel
      have q0 := (last_keep O (s := 0) (by kernel_rfl)).trans p0
      have q1 := (last_keep O (s := 1) (by kernel_rfl)).trans p1
      have q4 := (last_keep O (s := 4) (by kernel_rfl)).trans e4
      have q6 := (last_keep O (s := 6) (by kernel_rfl)).trans e6
      have q7 := (last_keep O (s := 7) (by kernel_rfl)).trans g7
      have g30 : f' 30 = .bool false := last_at V 9 30 rfl
      have z7 := hE.size
      have hr7 := hE.keepE hr6
      have hk7 := hE.keepE hk6
      have hs7 := hE.keepE hs6
      have XC : Ext h h7 := XB.ext hE (Nat.le_refl _)
      refine HW.no g30 ?_
      refine HW.skip ?_
      clear V O hR2 g30 e7 e8 e5 e19 hE
      have hKs : ∀ hh : Heap, Bel h7.size h7 hh → Dgs hh ka (M.map (·.1)) := fun hh B => (hK0.ext XC).keep fun sb so e => B.old sb (Nat.lt_of_lt_of_le (hLk sb so e).1 XC.size)
      have hBs : ∀ hh : Heap, (∀ j, j < h7.size → j ≠ s → hh[j]? = h7[j]?) → Byts hh ba l := fun hh B => (hB0.ext XC).keep (fun sb so e => B sb (Nat.lt_of_lt_of_le (hLb sb so e).1 XC.size) (hLb sb so e).2.2) fun y hy sb so e => B sb (Nat.lt_of_lt_of_le (hLl y hy sb so e).1 XC.size) (hLl y hy sb so e).2.2
      have hll : l.length = M.length := by have := congrArg List.length hlM; rwa [List.length_map, List.length_map] at this
      have hsN : s < h7.size := by omega
      -- region 7
      repeat refine HW.seq ?_
      refine HW.region ?_
      refine HL.one (HO.dgs0 ?_)
      intro h32 w32
      intro u32 e32
      refine HL.still (Runs.move q0) ?_
      intro u33 e33
      refine HL.still (Runs.nilc e33) ?_
      intro u34 e34
      refine HL.still (Runs.fld (o' := 0) Try.underlying43 rfl sz41 (by decide) e34 (by rfl)) ?_
      intro u35 e35
      refine HL.still (Runs.load Try.underlying41 rfl e35 (by rw [cellH_of (w32.keep hs7)]; rfl)) ?_
      intro u36 e36
      refine HL.still (Runs.move q7) ?_
      intro u37 e37
      refine HL.still (Runs.sliceSl Try.underlying41 sz31 e36 (lo := 0) (hi := i) rfl ⟨_, e37⟩ (Nat.zero_le _) (by omega) rfl) ?_
      intro u38 e38
      refine HL.one (HO.dapp e32 e38 rfl (by simp; omega) (Ds.lit (l := []) w32 (Nat.le_refl _) (Nat.zero_le _)) (((hKs _ w32.ext).drop (cap := kc) 0 (by rw [List.length_map]; exact hkc) (Nat.zero_le _) rfl).take i) (by simp; omega) (by rw [w32.size]; omega) ?_)
      intro a39 c39 h39 D39 G39
      intro u39 e39
      refine HL.still (Runs.assign e39) ?_
      intro u9 e9
      refine HL.nil ?_
      obtain ⟨Kt, hKt⟩ : ∃ Kt, Kt = (M.map (·.1)).take i := ⟨_, rfl⟩
      obtain ⟨Kd, hKd⟩ : ∃ Kd, Kd = (M.map (·.1)).drop i := ⟨_, rfl⟩
      have hKtl : Kt.length = i := by rw [hKt, List.length_take, List.length_map]; omega
      have hKdl : Kd.length = M.length - i := by rw [hKd, List.length_drop, List.length_map]
      have B39 : Bel h7.size h7 h39 := G39.belD w32.ext (Ds.lit (l := []) w32 (Nat.le_refl _) (Nat.zero_le _)) (Nat.le_refl _) (Nat.le_refl _)
      have D39' : Ds h39 h7.size a39 c39 Kt := by rw [hKt]; simpa using D39
      have g9 : u9 = .slice a39 Kt.length c39 := by rw [hKt]; simpa using e9
      obtain ⟨Ψ, hΨ⟩ : ∃ Ψ : Nat → Value → Value → Value → Heap → Prop, Ψ = fun t y z q hh =>
        (t ≤ 12 → Bel h7.size h7 hh) ∧ (t = 0 → Ds hh h7.size a39 c39 Kt) ∧
        (t = 4 → Ds hh h7.size a39 c39 Kt ∧ ∃ b, y = .slice (some ⟨b, 0, none⟩) 1 1 ∧ hh[b]? = some (.cells (fl [shaD xs]).toArray 31 (0, 0))) ∧
        (t = 5 → ∃ a c, z = .slice a (Kt ++ [shaD xs]).length c ∧ Ds hh h7.size a c (Kt ++ [shaD xs])) ∧
        (t = 12 → ∃ a c, q = .slice a (Kt ++ [shaD xs] ++ Kd).length c ∧ Ds hh h7.size a c (Kt ++ [shaD xs] ++ Kd)) ∧
        (t = 15 → ∃ a c, hh[s]? = some (.cells [.slice a (Kt ++ [shaD xs] ++ Kd).length c, .slice ba M.length bc, I64 room].toArray 43 (0, 0)) ∧ Ds hh h7.size a c (Kt ++ [shaD xs] ++ Kd) ∧ h7.size ≤ hh.size ∧ ∀ j, j < h7.size → j ≠ s → hh[j]? = h7[j]?) := ⟨_, rfl⟩
      repeat refine HW.seq ?_
      refine HW.chain #[0, 0, 0, 4, 14, 0, 32, 96, 224, 0, 992, 2046, 4095, 8191, 16383] C8 (fun t f hh => Ψ t (f 43) (f 44) (f 51) hh) mixed (by kernel_rfl) (by kernel_rfl) ?_ ?_ ?_
      · rw [hΨ]
        exact ⟨fun _ => B39, fun _ => D39', fun q => by omega, fun q => by omega, fun q => by omega, fun q => by omega⟩
      · intro t f hh d v i o ho hc hd hp
        show Ψ t (upd f d v 43) (upd f d v 44) (upd f d v 51) hh
        rw [upd_ne _ _ _ _ (offC_spec (s := 43) (C := C8) (by kernel_rfl) ho hc hd), upd_ne _ _ _ _ (offC_spec (s := 44) (C := C8) (by kernel_rfl) ho hc hd), upd_ne _ _ _ _ (offC_spec (s := 51) (C := C8) (by kernel_rfl) ho hc hd)]
        exact hp
      refine HM3.still rfl (fun f hh K => Runs.move ((K.keep (by kernel_rfl)).trans q0)) ?_
      refine HM3.still rfl (fun f hh K => Runs.move ((K.keep (by kernel_rfl)).trans g9)) ?_
      refine HM3.look rfl (fun f hh K ⟨t, htb, hp⟩ => Runs.loadAgg Try.underlying31 rfl sz31 ((K.keep (by kernel_rfl)).trans q6) (encD_len (shaD xs)) (load_blk (by
        rw [hΨ] at hp
        exact (hp.1 (Nat.le_trans (htb 3 rfl rfl) (by decide))).keep hk7 (by omega)))) ?_
      refine HM3.turn 0 rfl (AtC.of rfl) (fun f hh K hp => ?_) ?_
      · rw [hΨ] at hp
        refine HO.dgs1 (shaD xs) (K.at 2 42 rfl rfl rfl) fun h' w v hv => ?_
        show Ψ 4 (upd f 43 v 43) (upd f 43 v 44) (upd f 43 v 51) h'
        rw [hΨ, upd_eq, hv]
        exact ⟨fun _ => (hp.1 (by omega)).ext w.ext (Nat.le_refl _), fun q => by omega, fun _ => ⟨(hp.2.1 rfl).ext w.ext, hh.size, rfl, w.new⟩, fun q => by omega, fun q => by omega, fun q => by omega⟩
      refine HM3.turn 4 rfl (AtC.of rfl) (fun f hh K hp => ?_) ?_
      · rw [hΨ] at hp
        obtain ⟨D4, b4, y4, hb4⟩ := hp.2.2.1 rfl
        have B4 := hp.1 (by omega)
        refine HO.dapp (K.at 1 41 rfl rfl rfl) y4 rfl rfl D4 (dgs_block hb4) (by simp; omega) B4.size fun a5 c5 h' D5 G5 v hv => ?_
        show Ψ 5 (upd f 44 v 43) (upd f 44 v 44) (upd f 44 v 51) h'
        rw [hΨ, upd_eq, hv]
        exact ⟨fun _ => G5.belD B4 D4 (Nat.le_refl _) (Nat.le_refl _), fun q => by omega, fun q => by omega, fun _ => ⟨a5, c5, rfl, D5⟩, fun q => by omega, fun q => by omega⟩
      refine HM3.still rfl (fun f hh K => Runs.move ((K.keep (by kernel_rfl)).trans q0)) ?_
      refine HM3.still rfl (fun f hh K => Runs.nilc (K.at 5 45 rfl rfl rfl)) ?_
      refine HM3.still rfl (fun f hh K => Runs.fld (o' := 0) Try.underlying43 rfl sz41 (by decide) (K.at 6 46 rfl rfl rfl) (by rfl)) ?_
      refine HM3.look rfl (fun f hh K ⟨t, htb, hp⟩ => Runs.load Try.underlying41 rfl (K.at 7 47 rfl rfl rfl) (by
        rw [hΨ] at hp
        rw [cellH_of ((hp.1 (Nat.le_trans (htb 11 rfl rfl) (by decide))).keep hs7 hsN)]; rfl)) ?_
      refine HM3.still rfl (fun f hh K => Runs.move ((K.keep (by kernel_rfl)).trans q7)) ?_
      refine HM3.still rfl (fun f hh K => Runs.sliceSl Try.underlying41 sz31 (K.at 8 48 rfl rfl rfl) (lo := i) (hi := M.length) ⟨_, K.at 9 49 rfl rfl rfl⟩ rfl (by omega) (by omega) rfl) ?_
      refine HM3.turn 5 rfl (AtC.of rfl) (fun f hh K hp => ?_) ?_
      · rw [hΨ] at hp
        obtain ⟨a5, c5, y5, D5⟩ := hp.2.2.2.1 rfl
        have B5 := hp.1 (by omega)
        refine HO.dapp y5 (K.at 10 50 rfl rfl rfl) rfl hKdl.symm D5 (by rw [hKd]; exact (hKs _ B5).drop (cap := kc) i (by rw [List.length_map]; exact hkc) (by rw [List.length_map]; exact hpl) rfl) (by rw [List.length_append, hKtl, hKdl]; simp; omega) B5.size fun a6 c6 h' D6 G6 v hv => ?_
        show Ψ 12 (upd f 51 v 43) (upd f 51 v 44) (upd f 51 v 51) h'
        rw [hΨ, upd_eq, hv]
        exact ⟨fun _ => G6.belD B5 D5 (Nat.le_refl _) (Nat.le_refl _), fun q => by omega, fun q => by omega, fun q => by omega, fun _ => ⟨a6, c6, rfl, D6⟩, fun q => by omega⟩
      refine HM3.still rfl (fun f hh K => Runs.nilc (K.at 0 40 rfl rfl rfl)) ?_
      refine HM3.still rfl (fun f hh K => Runs.fld (o' := 0) Try.underlying43 rfl sz41 (by decide) (K.at 12 52 rfl rfl rfl) (by rfl)) ?_
      refine HM3.turnN 12 rfl (AtC.of rfl) (fun f hh K hp => ?_) ?_
      · rw [hΨ] at hp
        obtain ⟨a6, c6, y6, D6⟩ := hp.2.2.2.2.1 rfl
        have B6 := hp.1 (by omega)
        refine HO.store (s := 1) sz41 (K.at 13 53 rfl rfl rfl) y6 rfl (B6.keep hs7 hsN) (by simp) rfl fun h' w => ?_
        show Ψ 15 (f 43) (f 44) (f 51) h'
        rw [hΨ]
        exact ⟨fun q => by omega, fun q => by omega, fun q => by omega, fun q => by omega, fun q => by omega, fun _ => ⟨a6, c6, w.new, D6.wr w hsN, by rw [w.size]; exact B6.size, fun j hj hne => (w.old j hne).trans (B6.old j hj)⟩⟩
      intro f' h15 t ht hp V O
      obtain rfl := ht.eq (AtC.of (C := C8) (t := 15) (k := 15) rfl)
      rw [hΨ] at hp
      obtain ⟨a51, c51, hs15, D15, sz15, old15⟩ := hp.2.2.2.2.2 rfl
      have r0 := (last_keep O (s := 0) (by kernel_rfl)).trans q0
      have r1 := (last_keep O (s := 1) (by kernel_rfl)).trans q1
      have r4 := (last_keep O (s := 4) (by kernel_rfl)).trans q4
      have r6 := (last_keep O (s := 6) (by kernel_rfl)).trans q6
      have r7 := (last_keep O (s := 7) (by kernel_rfl)).trans q7
      clear hp hΨ V O D39 D39' G39 B39 e9 g9
      obtain ⟨KK, hKK⟩ : ∃ KK, KK = Kt ++ [shaD xs] ++ Kd := ⟨_, rfl⟩
      rw [← hKK] at hs15 D15
      have hsrc15 : Byt h15 a xs := by
        rcases hsrc with q | ⟨sb, so, e, hc⟩
        · exact .inl q
        · by_cases hx0 : xs.length = 0
          · exact .inl (List.length_eq_zero_iff.1 hx0)
          · have hbl := lt_of_cellH (hc 0 (by omega))
            have hne : sb ≠ s := by
              intro e
              subst e
              have := hc 0 (by omega)
              rw [cellH_of hs0] at this
              rcases so with _ | _ | _ | so
              · cases this
              · cases this
              · cases this
              · simp at this
            exact .inr ⟨sb, so, e, fun j hj => by rw [cellH_keep ((old15 sb (by omega) hne).trans (XC.old sb hbl))]; exact hc j hj⟩
      have hsrc15' : ∀ hh : Heap, Bel h15.size h15 hh → Byt hh a xs := fun hh B => by
        rcases hsrc15 with q | ⟨sb, so, e, hc⟩
        · exact .inl q
        · exact .inr ⟨sb, so, e, fun j hj => by rw [cellH_keep (B.old sb (lt_of_cellH (hc j hj)))]; exact hc j hj⟩
      have hB15 := hBs h15 old15
      have hRow15 := (byts_row.1 hB15).1
      obtain ⟨lt, hlt⟩ : ∃ lt, lt = l.take i := ⟨_, rfl⟩
      obtain ⟨ld, hld⟩ : ∃ ld, ld = l.drop i := ⟨_, rfl⟩
      have hltl : lt.length = i := by rw [hlt, List.length_take]; omega
      have hldl : ld.length = M.length - i := by rw [hld, List.length_drop, hll]
      have hsN2 : s < h15.size := by omega
      -- region 9
      repeat refine HW.seq ?_
      refine HW.region ?_
      refine HL.one (HO.rows0 ?_)
      intro h54 w54
      intro u54 e54
      refine HL.still (Runs.move r0) ?_
      intro u55 e55
      refine HL.still (Runs.nilc e55) ?_
      intro u56 e56
      refine HL.still (Runs.fld (o' := 1) Try.underlying43 rfl sz22 (by decide) e56 (by rfl)) ?_
      intro u57 e57
      refine HL.still (Runs.load Try.underlying22 rfl e57 (by rw [cellH_of (w54.keep hs15)]; rfl)) ?_
      intro u58 e58
      refine HL.still (Runs.move r7) ?_
      intro u59 e59
      refine HL.still (Runs.sliceSl Try.underlying22 sz29 e58 (lo := 0) (hi := i) rfl ⟨_, e59⟩ (Nat.zero_le _) (by omega) rfl) ?_
      intro u60 e60
      refine HL.one (HO.rapp1 Try.underlying22 in29 rfl one29 e54 e60 rfl (by simp; omega) (Rs.lit (xs := []) w54 (Nat.le_refl _) (Nat.zero_le _)) (((hRow15.ext w54.ext).drop (cap := bc) 0 (by rw [hll]; exact hbc) (Nat.zero_le _) rfl).take i) (by simp; omega) (by simp; exact Nat.le_trans (Nat.min_le_left _ _) (Nat.le_trans (by omega : i ≤ 1000000) (by decide))) (by rw [w54.size]; omega) ?_)
      intro a61 c61 h61 D61 G61
      intro u61 e61
      refine HL.still (Runs.assign e61) ?_
      intro u10 e10
      refine HL.nil ?_
      have B61 : Bel h15.size h15 h61 := G61.belR w54.ext (Rs.lit (gv := gvB) (xs := []) w54 (Nat.le_refl _) (Nat.zero_le _)) (Nat.le_refl _) (Nat.le_refl _)
      have D61' : Rs gvB h61 h15.size 29 a61 c61 lt := by rw [hlt]; simpa using D61
      have g10 : u10 = .slice a61 lt.length c61 := by rw [hlt]; simpa using e10
      have hml : ∀ n : Nat, n ≤ 1000001 → n ≤ maxLen := fun n hn => Nat.le_trans hn (by decide)
      obtain ⟨Ψ, hΨ⟩ : ∃ Ψ : Nat → Value → Value → Value → Value → Value → Heap → Prop, Ψ = fun t y64 y66 y67 y68 y75 hh =>
        (t ≤ 14 → Bel h15.size h15 hh) ∧ (t = 0 → Rs gvB hh h15.size 29 a61 c61 lt) ∧
        (t = 3 → Rs gvB hh h15.size 29 a61 c61 lt ∧ ∃ b, y64 = .slice (some ⟨b, 0, none⟩) 0 0 ∧ Bs hh h15.size 5 (some ⟨b, 0, none⟩) 0 []) ∧
        (t = 5 → Rs gvB hh h15.size 29 a61 c61 lt ∧ ∃ a c, y66 = .slice a xs.length c ∧ Bs hh h15.size 5 a c xs) ∧
        (t = 6 → Rs gvB hh h15.size 29 a61 c61 lt ∧ ∃ a c b, y67 = .slice (some ⟨b, 0, none⟩) 1 1 ∧ hh[b]? = some (.cells ([(a, c, xs)].map gvB).toArray 29 (0, 0)) ∧ Bs hh h15.size 5 a c xs) ∧
        (t = 7 → ∃ a c a' c', y68 = .slice a' (lt ++ [(a, c, xs)]).length c' ∧ Rs gvB hh h15.size 29 a' c' (lt ++ [(a, c, xs)]) ∧ Bs hh h15.size 5 a c xs) ∧
        (t = 14 → ∃ a c a' c', y75 = .slice a' (lt ++ [(a, c, xs)] ++ ld).length c' ∧ Rs gvB hh h15.size 29 a' c' (lt ++ [(a, c, xs)] ++ ld) ∧ Bs hh h15.size 5 a c xs) ∧
        (t = 17 → ∃ a c a' c', hh[s]? = some (.cells [.slice a51 KK.length c51, .slice a' (lt ++ [(a, c, xs)] ++ ld).length c', I64 room].toArray 43 (0, 0)) ∧ Rs gvB hh h15.size 29 a' c' (lt ++ [(a, c, xs)] ++ ld) ∧ Bs hh h15.size 5 a c xs ∧ h15.size ≤ hh.size ∧ ∀ j, j < h15.size → j ≠ s → hh[j]? = h15[j]?) := ⟨_, rfl⟩
      repeat refine HW.seq ?_
      refine HW.chain #[0, 0, 0, 0, 12, 28, 62, 0, 128, 384, 896, 0, 3968, 8190, 16383, 32767, 65535] C10 (fun t f hh => Ψ t (f 64) (f 66) (f 67) (f 68) (f 75) hh) mixed (by kernel_rfl) (by kernel_rfl) ?_ ?_ ?_
      · rw [hΨ]
        exact ⟨fun _ => B61, fun _ => D61', fun q => by omega, fun q => by omega, fun q => by omega, fun q => by omega, fun q => by omega, fun q => by omega⟩
      · intro t f hh d v i o ho hc hd hp
        show Ψ t (upd f d v 64) (upd f d v 66) (upd f d v 67) (upd f d v 68) (upd f d v 75) hh
        rw [upd_ne _ _ _ _ (offC_spec (s := 64) (C := C10) (by kernel_rfl) ho hc hd), upd_ne _ _ _ _ (offC_spec (s := 66) (C := C10) (by kernel_rfl) ho hc hd), upd_ne _ _ _ _ (offC_spec (s := 67) (C := C10) (by kernel_rfl) ho hc hd), upd_ne _ _ _ _ (offC_spec (s := 68) (C := C10) (by kernel_rfl) ho hc hd), upd_ne _ _ _ _ (offC_spec (s := 75) (C := C10) (by kernel_rfl) ho hc hd)]
        exact hp
      refine HM3.still rfl (fun f hh K => Runs.move ((K.keep (by kernel_rfl)).trans r0)) ?_
      refine HM3.still rfl (fun f hh K => Runs.move ((K.keep (by kernel_rfl)).trans g10)) ?_
      refine HM3.turn 0 rfl (AtC.of rfl) (fun f hh K hp => ?_) ?_
      · rw [hΨ] at hp
        have B0 := hp.1 (by omega)
        refine HO.bytes0 fun h' w v hv => ?_
        show Ψ 3 (upd f 64 v 64) (upd f 64 v 66) (upd f 64 v 67) (upd f 64 v 68) (upd f 64 v 75) h'
        rw [hΨ, upd_eq, hv]
        exact ⟨fun _ => B0.ext w.ext (Nat.le_refl _), fun q => by omega, fun _ => ⟨(hp.2.1 rfl).ext w.ext, hh.size, rfl, Bs.lit (xs := []) w B0.size (Nat.zero_le _)⟩, fun q => by omega, fun q => by omega, fun q => by omega, fun q => by omega, fun q => by omega⟩
      refine HM3.still rfl (fun f hh K => Runs.move ((K.keep (by kernel_rfl)).trans r1)) ?_
      refine HM3.turn 3 rfl (AtC.of rfl) (fun f hh K hp => ?_) ?_
      · rw [hΨ] at hp
        have B0 := hp.1 (by omega)
        obtain ⟨R3, b3, y3, b3'⟩ := hp.2.2.1 rfl
        refine HO.app Try.underlying29 in5 rfl y3 (K.at 3 65 rfl rfl rfl) rfl rfl b3' (hsrc15' hh B0) (by simp; omega) B0.size fun a4 c4 h' B4 G4 v hv => ?_
        show Ψ 5 (upd f 66 v 64) (upd f 66 v 66) (upd f 66 v 67) (upd f 66 v 68) (upd f 66 v 75) h'
        rw [hΨ, upd_eq, hv]
        exact ⟨fun _ => G4.bel B0 b3' (Nat.le_refl _) (Nat.le_refl _), fun q => by omega, fun q => by omega, fun _ => ⟨R3.gr29 b3' G4, a4, c4, rfl, B4⟩, fun q => by omega, fun q => by omega, fun q => by omega, fun q => by omega⟩
      refine HM3.turn 5 rfl (AtC.of rfl) (fun f hh K hp => ?_) ?_
      · rw [hΨ] at hp
        have B0 := hp.1 (by omega)
        obtain ⟨R4, a4, c4, y4, b4⟩ := hp.2.2.2.1 rfl
        refine HO.rows1 (a4, c4, xs) y4 fun h' w v hv => ?_
        show Ψ 6 (upd f 67 v 64) (upd f 67 v 66) (upd f 67 v 67) (upd f 67 v 68) (upd f 67 v 75) h'
        rw [hΨ, upd_eq, hv]
        exact ⟨fun _ => B0.ext w.ext (Nat.le_refl _), fun q => by omega, fun q => by omega, fun q => by omega, fun _ => ⟨R4.ext w.ext, a4, c4, hh.size, rfl, w.new, b4.ext w.ext⟩, fun q => by omega, fun q => by omega, fun q => by omega⟩
      refine HM3.turn 6 rfl (AtC.of rfl) (fun f hh K hp => ?_) ?_
      · rw [hΨ] at hp
        have B0 := hp.1 (by omega)
        obtain ⟨R5, a4, c4, b5, y5, hb5, b4⟩ := hp.2.2.2.2.1 rfl
        refine HO.rapp1 Try.underlying22 in29 rfl one29 (K.at 1 63 rfl rfl rfl) y5 rfl rfl R5 (z0 := zB) (row_block hb5) (by simp; omega) (hml _ (by simp; omega)) B0.size fun a6 c6 h' R6 G6 v hv => ?_
        show Ψ 7 (upd f 68 v 64) (upd f 68 v 66) (upd f 68 v 67) (upd f 68 v 68) (upd f 68 v 75) h'
        rw [hΨ, upd_eq, hv]
        exact ⟨fun _ => G6.belR B0 R5 (Nat.le_refl _) (Nat.le_refl _), fun q => by omega, fun q => by omega, fun q => by omega, fun q => by omega, fun _ => ⟨a4, c4, a6, c6, rfl, R6, b4.gr R5 G6⟩, fun q => by omega, fun q => by omega⟩
      refine HM3.still rfl (fun f hh K => Runs.move ((K.keep (by kernel_rfl)).trans r0)) ?_
      refine HM3.still rfl (fun f hh K => Runs.nilc (K.at 7 69 rfl rfl rfl)) ?_
      refine HM3.still rfl (fun f hh K => Runs.fld (o' := 1) Try.underlying43 rfl sz22 (by decide) (K.at 8 70 rfl rfl rfl) (by rfl)) ?_
      refine HM3.look rfl (fun f hh K ⟨t, htb, hp⟩ => Runs.load Try.underlying22 rfl (K.at 9 71 rfl rfl rfl) (by
        rw [hΨ] at hp
        rw [cellH_of ((hp.1 (Nat.le_trans (htb 13 rfl rfl) (by decide))).keep hs15 hsN2)]; rfl)) ?_
      refine HM3.still rfl (fun f hh K => Runs.move ((K.keep (by kernel_rfl)).trans r7)) ?_
      refine HM3.still rfl (fun f hh K => Runs.sliceSl Try.underlying22 sz29 (K.at 10 72 rfl rfl rfl) (lo := i) (hi := M.length) ⟨_, K.at 11 73 rfl rfl rfl⟩ rfl (by omega) (by omega) rfl) ?_
      refine HM3.turn 7 rfl (AtC.of rfl) (fun f hh K hp => ?_) ?_
      · rw [hΨ] at hp
        have B0 := hp.1 (by omega)
        obtain ⟨a4, c4, a6, c6, y6, R6, b4⟩ := hp.2.2.2.2.2.1 rfl
        refine HO.rapp1 Try.underlying22 in29 rfl one29 y6 (K.at 12 74 rfl rfl rfl) rfl hldl.symm R6 (z0 := zB) (by rw [hld]; exact (hRow15.keep fun sb so e => B0.old sb (Nat.lt_of_lt_of_le (hLb sb so e).1 (Nat.le_trans XC.size sz15))).drop (cap := bc) i (by rw [hll]; exact hbc) (by rw [hll]; exact hpl) rfl) (by simp; omega) (hml _ (by simp; omega)) B0.size fun a7 c7 h' R7 G7 v hv => ?_
        show Ψ 14 (upd f 75 v 64) (upd f 75 v 66) (upd f 75 v 67) (upd f 75 v 68) (upd f 75 v 75) h'
        rw [hΨ, upd_eq, hv]
        exact ⟨fun _ => G7.belR B0 R6 (Nat.le_refl _) (Nat.le_refl _), fun q => by omega, fun q => by omega, fun q => by omega, fun q => by omega, fun q => by omega, fun _ => ⟨a4, c4, a7, c7, rfl, R7, b4.gr R6 G7⟩, fun q => by omega⟩
      refine HM3.still rfl (fun f hh K => Runs.nilc (K.at 0 62 rfl rfl rfl)) ?_
      refine HM3.still rfl (fun f hh K => Runs.fld (o' := 1) Try.underlying43 rfl sz22 (by decide) (K.at 14 76 rfl rfl rfl) (by rfl)) ?_
      refine HM3.turnN 14 rfl (AtC.of rfl) (fun f hh K hp => ?_) ?_
      · rw [hΨ] at hp
        obtain ⟨a4, c4, a7, c7, y7, R7, b4⟩ := hp.2.2.2.2.2.2.1 rfl
        have B6 := hp.1 (by omega)
        refine HO.store (s := 1) sz22 (K.at 15 77 rfl rfl rfl) y7 rfl (B6.keep hs15 hsN2) (by simp) rfl fun h' w => ?_
        show Ψ 17 (f 64) (f 66) (f 67) (f 68) (f 75) h'
        rw [hΨ]
        exact ⟨fun q => by omega, fun q => by omega, fun q => by omega, fun q => by omega, fun q => by omega, fun q => by omega, fun q => by omega, fun _ => ⟨a4, c4, a7, c7, w.new, R7.wr w hsN2, b4.wr w hsN2, by rw [w.size]; exact B6.size, fun j hj hne => (w.old j hne).trans (B6.old j hj)⟩⟩
      intro f' h17 t ht hp V O
      obtain rfl := ht.eq (AtC.of (C := C10) (t := 17) (k := 17) rfl)
      rw [hΨ] at hp
      obtain ⟨a4, c4, a7, c7, hs17, R7, b4, sz17, old17⟩ := hp.2.2.2.2.2.2.2 rfl
      have x4 := (last_keep O (s := 4) (by kernel_rfl)).trans r4
      have x6 := (last_keep O (s := 6) (by kernel_rfl)).trans r6
      clear hp hΨ V O D61 D61' G61 B61 e10 g10
      have old7 : ∀ j, j < h7.size → j ≠ s → h17[j]? = h7[j]? := fun j hj hne => (old17 j (by omega) hne).trans (old15 j hj hne)
      have hk17 : h17[h2.size]? = some (.cells (encD (shaD xs)).toArray 31 (0, 0)) := (old7 _ (by omega) (by omega)).trans hk7
      have hr17 := (old7 _ (by omega) (by omega)).trans hr7
      -- region 11
      repeat refine HW.seq ?_
      refine HW.region ?_
      refine HL.still (Runs.loadAgg Try.underlying31 rfl sz31 x6 (encD_len (shaD xs)) (load_blk hk17)) ?_
      intro u78 e78
      refine HL.zero (HO.storeAll sz31 x4 e78 (one_map B8 (fun _ => rfl) _) hr17 (encD_len _) (by simp) ?_)
      intro h18 w18
      refine HL.still (Runs.assign rfl) ?_
      intro u5 e5
      refine HL.nil ?_
      have z18 := w18.size
      refine HW.ret ?_
      refine RT.cellTmp rfl x4 e5 w18.new Try.underlying31 rfl sz31 (encD_len _) ⟨rfl, ?_, ⟨by omega, fun j hj hne => (w18.old j (by omega)).trans ((old7 j (by omega) hne).trans (XC.old j hj))⟩⟩
      have old18 : ∀ j, j < h.size → j ≠ s → h18[j]? = h[j]? := fun j hj hne => (w18.old j (by omega)).trans ((old7 j (by omega) hne).trans (XC.old j hj))
      have hs18 := w18.keep hs17 (by omega)
      have hlen1 : KK.length = (M.take i ++ (shaD xs, xs) :: M.drop i).length := by rw [hKK]; simp [hKtl, hKdl]; omega
      have hlen2 : (lt ++ [(a4, c4, xs)] ++ ld).length = (M.take i ++ (shaD xs, xs) :: M.drop i).length := by simp [hltl, hldl]; omega
      rw [hlen1, hlen2] at hs18
      refine ⟨a51, c51, a7, c7, lt ++ [(a4, c4, xs)] ++ ld, hs18, ?_, by rw [← hlen1]; exact D15.2, ?_, by rw [← hlen2]; exact R7.2, ?_, .inl hFs, ?_, ?_, ?_⟩
      · have e1 : (M.take i ++ (shaD xs, xs) :: M.drop i).map (·.1) = KK := by rw [hKK, hKt, hKd]; simp [List.map_take, List.map_drop]
        rw [e1]
        refine D15.dgs.keep fun sb so e => ?_
        rcases D15.blk with ⟨q, _⟩ | ⟨g, q, q1, q2⟩
        · rw [q] at e; cases e
        · rw [q] at e; cases e
          exact (w18.old _ (by omega)).trans (old17 _ q2 (by omega))
      · have R8 := R7.wr w18 (by omega)
        have b8 := b4.wr w18 (by omega)
        refine byts_row.2 ⟨R8.byt, .inr fun x hx => ?_⟩
        have hall := (byts_row.1 hB0).2
        have hold : ∀ x ∈ l, Byt h18 x.1 x.2.2 ∧ x.2.2.length ≤ x.2.1 := fun x hx => by
          rcases hall with q | q
          · rw [q] at hx; cases hx
          · exact ⟨(q x hx).1.keep fun sb so e => old18 sb (hLl x hx sb so e).1 (hLl x hx sb so e).2.2, (q x hx).2⟩
        rw [List.append_assoc, List.mem_append, List.mem_append] at hx
        rcases hx with hx | hx | hx
        · exact hold x (List.mem_of_mem_take (hlt ▸ hx))
        · have : x = (a4, c4, xs) := by simpa using hx
          subst this
          exact ⟨b8.byt, b8.2⟩
        · exact hold x (List.mem_of_mem_drop (hld ▸ hx))
      · rw [hlt, hld]
        simp [List.map_append, List.map_take, List.map_drop, hlM]
      · intro sb so e
        rcases D15.blk with ⟨q, _⟩ | ⟨g, q, q1, q2⟩
        · rw [q] at e; cases e
        · rw [q] at e; cases e
          exact ⟨by omega, .inr (by omega), by omega⟩
      · intro sb so e
        rcases R7.blk with q | ⟨g, q, q1, q2⟩
        · rw [q] at e; cases e
        · rw [q] at e; cases e
          exact ⟨by omega, .inr (by omega), by omega⟩
      · intro x hx sb so e
        have hold : ∀ x ∈ l, ∀ sb so, x.1 = some ⟨sb, so, none⟩ → sb < h18.size ∧ (F sb ∨ h.size ≤ sb) ∧ sb ≠ s := fun x hx sb so e => ⟨by have := (hLl x hx sb so e).1; omega, .inl (hLl x hx sb so e).2.1, (hLl x hx sb so e).2.2⟩
        rw [List.append_assoc, List.mem_append, List.mem_append] at hx
        rcases hx with hx | hx | hx
        · exact hold x (List.mem_of_mem_take (hlt ▸ hx)) sb so e
        · have : x = (a4, c4, xs) := by simpa using hx
          subst this
          rcases b4.blk with q | ⟨g, q, q1, q2⟩
          · rw [q] at e; cases e
          · rw [q] at e; cases e
            exact ⟨by omega, .inr (by omega), by omega⟩
        · exact hold x (List.mem_of_mem_drop (hld ▸ hx)) sb so e
end Go.Proofs.Ytklelhfgbjpifaa
