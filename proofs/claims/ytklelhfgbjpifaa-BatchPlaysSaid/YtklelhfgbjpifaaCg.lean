/- The document's batch: what it is on the heap; at, all, bytes. -/
import Derived.Test.YtklelhfgbjpifaaBx
import Derived.Test.YtklelhfgbjpifaaBv
namespace Go.Proofs.Ytklelhfgbjpifaa
set_option linter.unnecessarySimpa false
set_option linter.unusedSimpArgs false
set_option linter.unusedVariables false
open Go.RowKit
/-- The document's batch lies in block q, for the document's store y: what is staged, in order. -/
def Rbt (F : Nat → Prop) (h : Heap) (q y : Nat) (W : Blobs) (o : Bool) : Prop :=
  ∃ ba bc l, h[q]? = some (.cells [.pointer (some ⟨y, 0, none⟩), .slice ba W.length bc, .bool o].toArray 56 (0, 0)) ∧ Byts h ba l ∧ W.length ≤ bc ∧ l.map (·.2.2) = W.map (·.2) ∧
    F q ∧ Lie (fun j => F j ∧ j ≠ q) h ba ∧ ∀ x ∈ l, Lie (fun j => F j ∧ j ≠ q) h x.1
theorem row_at {h : Heap} {ba : Option Addr} {l : List (Option Addr × Nat × List UInt8)} {W : Blobs} (hB : Byts h ba l) (hlM : l.map (·.2.2) = W.map (·.2)) {k : Nat} (hk : k < W.length) :
    ∃ sb so b1 c1, ba = some ⟨sb, so, none⟩ ∧ cellH h sb (so + k) = some (.slice b1 (W.getD k (zD, [])).2.length c1) ∧ Byt h b1 (W.getD k (zD, [])).2 ∧ (W.getD k (zD, [])).2.length ≤ c1 := by
  have hll : l.length = W.length := by have := congrArg List.length hlM; rwa [List.length_map, List.length_map] at this
  obtain ⟨sb, so, h1, b1, c1, xs, hx, h2, h3, h4⟩ := hB.at (show k < l.length by omega)
  have hxs : (W.getD k (zD, [])).2 = xs := by
    have h5 := congrArg (·[k]?) hlM
    simp only [List.getElem?_map, hx, List.getElem?_eq_getElem hk, Option.map_some] at h5
    have h6 := Option.some.inj h5
    rw [List.getD_eq_getElem?_getD, List.getElem?_eq_getElem hk]
    exact h6.symm
  rw [hxs]
  exact ⟨sb, so, b1, c1, h1, h2, h3, h4⟩
theorem Rbt.keep {F : Nat → Prop} {h h' : Heap} {q y : Nat} {W : Blobs} {o : Bool} (x : Rbt F h q y W o) (hs : h.size ≤ h'.size) (k : ∀ j, j < h.size → F j → h'[j]? = h[j]?) : Rbt F h' q y W o := by
  obtain ⟨ba, bc, l, h1, h2, h3, h4, h5, h6, h7⟩ := x
  exact ⟨ba, bc, l, (k q (lt_of_some h1) h5).trans h1, h2.keep (fun sb so e => k sb (h6 sb so e).1 (h6 sb so e).2.1) fun y hy sb so e => k sb (h7 y hy sb so e).1 (h7 y hy sb so e).2.1, h3, h4, h5, h6.mono hs fun _ _ q => q, fun y hy => (h7 y hy).mono hs fun _ _ q => q⟩
theorem Rbt.ext {F : Nat → Prop} {h h' : Heap} {q y : Nat} {W : Blobs} {o : Bool} (x : Rbt F h q y W o) (k : Ext h h') : Rbt F h' q y W o := x.keep k.size fun j hj _ => k.old j hj
theorem Rbt.weaken {F F' : Nat → Prop} {h : Heap} {q y : Nat} {W : Blobs} {o : Bool} (x : Rbt F h q y W o) (k : ∀ j, j < h.size → F j → F' j) : Rbt F' h q y W o := by
  obtain ⟨ba, bc, l, h1, h2, h3, h4, h5, h6, h7⟩ := x
  exact ⟨ba, bc, l, h1, h2, h3, h4, k q (lt_of_some h1) h5, h6.mono (Nat.le_refl _) fun j hj r => ⟨k j hj r.1, r.2⟩, fun y hy => (h7 y hy).mono (Nat.le_refl _) fun j hj r => ⟨k j hj r.1, r.2⟩⟩
theorem Rbt.lt {F : Nat → Prop} {h : Heap} {q y : Nat} {W : Blobs} {o : Bool} (x : Rbt F h q y W o) : q < h.size := by
  obtain ⟨_, _, _, h1, _⟩ := x
  exact lt_of_some h1
theorem Rbt.foot {F : Nat → Prop} {h : Heap} {q y : Nat} {W : Blobs} {o : Bool} (x : Rbt F h q y W o) : F q := by
  obtain ⟨_, _, _, _, _, _, _, h5, _⟩ := x
  exact h5
theorem Rbt.mine {own : Nat → Nat} {x n : Nat} {h : Heap} {q y : Nat} {W : Blobs} {o : Bool} (k : Rbt (fun j => own j = x ∨ n ≤ j) h q y W o) : Rbt (fun j => stamp own n x j = x) h q y W o := k.weaken fun _ _ q => stamp_mine q
theorem Rbt.st {own : Nat → Nat} {x z : Nat} {h h' : Heap} {q y : Nat} {W : Blobs} {o : Bool} (k : Rbt (fun j => own j = z) h q y W o) (hs : h.size ≤ h'.size) (e : ∀ j, j < h.size → own j = z → h'[j]? = h[j]?) : Rbt (fun j => stamp own h.size x j = z) h' q y W o :=
  (k.weaken (F' := fun j => own j = z ∧ stamp own h.size x j = z) fun j hj q => ⟨q, by rw [stamp_lt hj]; exact q⟩).keep hs (fun j hj q => e j hj q.1) |>.weaken fun _ _ q => q.2
theorem Rst.st {own : Nat → Nat} {x z : Nat} {h h' : Heap} {s : Nat} {room : Int} {M : Blobs} (k : Rst (fun j => own j = z) h s room M) (hs : h.size ≤ h'.size) (e : ∀ j, j < h.size → own j = z → h'[j]? = h[j]?) : Rst (fun j => stamp own h.size x j = z) h' s room M :=
  (k.weaken (F' := fun j => own j = z ∧ stamp own h.size x j = z) fun j hj q => ⟨q, by rw [stamp_lt hj]; exact q⟩).keep hs (fun j hj q => e j hj q.1) |>.weaken fun _ _ q => q.2
theorem BatO.st {own : Nat → Nat} {x z : Nat} {h h' : Heap} {t s : Nat} (k : BatO (fun j => own j = z) h t s) (e : ∀ j, j < h.size → own j = z → h'[j]? = h[j]?) : BatO (fun j => stamp own h.size x j = z) h' t s :=
  ⟨(e t (lt_of_some k.1) k.2).trans k.1, (stamp_lt (lt_of_some k.1)).trans k.2⟩
/-- Where a digest stands among what is staged. -/
def idxL (W : Blobs) (d : Dg) : Nat := W.findIdx fun p => p.1 == d
def idxO (W : Blobs) (d : Dg) : Int := if idxL W d < W.length then (idxL W d : Int) else -1
theorem idx_at {W : Blobs} {d : Dg} {k : Nat} (hk : k < W.length) (hall : ∀ j, j < k → ((W.getD j (zD, [])).1 == d) = false) (he : ((W.getD k (zD, [])).1 == d) = true) : idxO W d = k := by
  have hg : ∀ j (hj : j < W.length), W.getD j (zD, []) = W[j] := fun j hj => by rw [List.getD_eq_getElem?_getD, List.getElem?_eq_getElem hj]; rfl
  have : idxL W d = k := by
    unfold idxL
    rw [List.findIdx_eq hk]
    refine ⟨by rw [← hg k hk]; exact he, fun j hj => ?_⟩
    have := hall j hj
    rw [hg j (by omega)] at this
    simp [this]
  unfold idxO
  rw [this, if_pos hk]
theorem idx_end {W : Blobs} {d : Dg} (hall : ∀ j, j < W.length → ((W.getD j (zD, [])).1 == d) = false) : idxO W d = -1 := by
  unfold idxO
  rw [if_neg]
  intro h
  have h1 := List.findIdx_getElem (w := h)
  have := hall _ h
  rw [List.getD_eq_getElem?_getD, List.getElem?_eq_getElem h] at this
  simp only [Option.getD_some] at this
  exact Bool.noConfusion (Eq.trans (Eq.symm h1) this)
theorem idx_look (W : Blobs) (d : Dg) : (idxO W d = -1 ∧ lookM W d = none) ∨ ∃ i, i < W.length ∧ idxO W d = (i : Int) ∧ lookM W d = some (W.getD i (zD, [])).2 := by
  unfold idxO
  by_cases h : idxL W d < W.length
  · right
    rw [if_pos h]
    refine ⟨_, h, rfl, ?_⟩
    have h1 : W.find? (fun p => p.1 == d) = some W[idxL W d] := by
      rw [List.find?_eq_some_iff_getElem]
      refine ⟨List.findIdx_getElem (w := h), _, h, rfl, fun j hj => ?_⟩
      have := List.not_of_lt_findIdx hj
      simpa using this
    unfold lookM
    rw [h1, List.getD_eq_getElem?_getD, List.getElem?_eq_getElem h]
    rfl
  · left
    rw [if_neg h]
    refine ⟨rfl, ?_⟩
    have h1 : W.find? (fun p => p.1 == d) = none := by
      rw [List.find?_eq_none]
      intro p hp
      have h2 : W.findIdx (fun p => p.1 == d) = W.length := by
        have := List.findIdx_le_length (xs := W) (p := fun p => p.1 == d)
        unfold idxL at h
        omega
      have := List.findIdx_eq_length.1 h2 p hp
      simpa using this
    unfold lookM
    rw [h1]
    rfl
set_option maxRecDepth 10000 in
theorem allR_ch {F : Nat → Prop} (h : Heap) (q y : Nat) (W : Blobs) (o : Bool) (hT : Rbt F h q y W o) (ht : tot W ≤ 1000000000) (hl : W.length ≤ 1000000) : CH Try.prog 57 #[.pointer (some ⟨q, 0, none⟩)] h fun v h' => v = I64 (tot W : Int) ∧ Ext h h' := by
  obtain ⟨ba, bc, l, hs, hB, hbc, hlM, -⟩ := hT
  refine CH.of_body Try.func57 rfl rfl rfl ?_
  intro f hf
  have p0 : f 0 = .pointer (some ⟨q, 0, none⟩) := by rw [hf]; exact fr0_at rfl
  -- region 0
  repeat refine HW.seq ?_
  refine HW.region ?_
  refine HL.still (Runs.assign rfl) ?_
  intro u2 e2
  refine HL.nil ?_
  -- region 1
  repeat refine HW.seq ?_
  refine HW.region ?_
  refine HL.still (Runs.assign rfl) ?_
  intro u3 e3
  refine HL.nil ?_
  -- region 2
  repeat refine HW.seq ?_
  refine HW.region ?_
  refine HL.still (Runs.assign rfl) ?_
  intro u4 e4
  refine HL.nil ?_
  repeat refine HW.seq ?_
  refine HW.block ?_
  refine HW.loop (fun m f u => ∃ k : Nat, k ≤ W.length ∧ m = W.length - k ∧ f 4 = I64 k ∧ f 0 = .pointer (some ⟨q, 0, none⟩) ∧ f 3 = I64 (tot (W.take k) : Int) ∧ u = h) W.length
    ⟨0, Nat.zero_le _, rfl, e4, p0, e3, rfl⟩ ?_
  clear e2 e3 e4
  rintro m f u ⟨k, hk, hm, f4, f0, f3, rfl⟩
  by_cases hlt : k < W.length
  · obtain ⟨sb, so, b1, c1, hba, hcell, _, _⟩ := row_at hB hlM hlt
    have htt := tot_take W hlt
    have htl := tot_take_le W (k + 1)
    have hs' := hs
    rw [hba] at hs'
    -- region 3
    repeat refine HW.seq ?_
    refine HW.region ?_
    refine HL.still (Runs.move f4) ?_
    intro u5 e5
    refine HL.still (Runs.move f0) ?_
    intro u6 e6
    refine HL.still (Runs.nilc e6) ?_
    intro u7 e7
    refine HL.still (Runs.fld (o' := 1) Try.underlying56 rfl sz22 (by decide) e7 (by rfl)) ?_
    intro u8 e8
    refine HL.still (Runs.load Try.underlying22 rfl e8 (by rw [cellH_of hs']; rfl)) ?_
    intro u9 e9
    refine HL.still (Runs.lenSl rfl Try.underlying22 e9) ?_
    intro u10 e10
    refine HL.still (Runs.lss e5 e10 rfl) ?_
    intro u11 e11
    refine HL.nil ?_
    repeat refine HW.seq ?_
    refine HW.yes ?_ ?_
    exact e11.trans (congrArg Value.bool (decide_eq_true (by omega)))
    refine HW.skip ?_
    repeat refine HW.seq ?_
    refine HW.block ?_
    -- region 5
    repeat refine HW.seq ?_
    refine HW.region ?_
    refine HL.still (Runs.move f3) ?_
    intro u14 e14
    refine HL.still (Runs.move f0) ?_
    intro u15 e15
    refine HL.still (Runs.nilc e15) ?_
    intro u16 e16
    refine HL.still (Runs.fld (o' := 1) Try.underlying56 rfl sz22 (by decide) e16 (by rfl)) ?_
    intro u17 e17
    refine HL.still (Runs.load Try.underlying22 rfl e17 (by rw [cellH_of hs']; rfl)) ?_
    intro u18 e18
    refine HL.still (Runs.move f4) ?_
    intro u19 e19
    refine HL.still (Runs.ixSl (o' := so + k) Try.underlying22 sz29 e18 e19 (by omega) (by omega) (by omega)) ?_
    intro u20 e20
    refine HL.still (Runs.load Try.underlying29 rfl e20 hcell) ?_
    intro u21 e21
    refine HL.still (Runs.lenSl rfl Try.underlying29 e21) ?_
    intro u22 e22
    refine HL.still (Runs.add e14 e22 (i64w (by omega))) ?_
    intro u23 e23
    refine HL.still (Runs.assign e23) ?_
    intro u3 e3
    refine HL.nil ?_
    -- region 4
    repeat refine HW.seq ?_
    refine HW.region ?_
    refine HL.still (Runs.move f4) ?_
    intro u12 e12
    refine HL.still (Runs.add e12 rfl (i64w (by omega))) ?_
    intro u13 e13
    refine HL.still (Runs.assign e13) ?_
    intro u4 e4
    refine HL.nil ?_
    exact ⟨W.length - (k + 1), by omega, k + 1, by omega, rfl, e4, f0, e3.trans (congrArg (Value.int .i64) (by rw [htt]; omega)), rfl⟩
  · have hkl : k = W.length := by omega
    subst hkl
    rw [List.take_of_length_le (Nat.le_refl _)] at f3
    -- region 3
    repeat refine HW.seq ?_
    refine HW.region ?_
    refine HL.still (Runs.move f4) ?_
    intro u5 e5
    refine HL.still (Runs.move f0) ?_
    intro u6 e6
    refine HL.still (Runs.nilc e6) ?_
    intro u7 e7
    refine HL.still (Runs.fld (o' := 1) Try.underlying56 rfl sz22 (by decide) e7 (by rfl)) ?_
    intro u8 e8
    refine HL.still (Runs.load Try.underlying22 rfl e8 (by rw [cellH_of hs]; rfl)) ?_
    intro u9 e9
    refine HL.still (Runs.lenSl rfl Try.underlying22 e9) ?_
    intro u10 e10
    refine HL.still (Runs.lss e5 e10 rfl) ?_
    intro u11 e11
    refine HL.nil ?_
    repeat refine HW.seq ?_
    refine HW.no ?_ ?_
    exact e11.trans (congrArg Value.bool (decide_eq_false (by omega)))
    refine HW.exitHere ?_
    -- region 6
    repeat refine HW.seq ?_
    refine HW.region ?_
    refine HL.still (Runs.move f3) ?_
    intro u24 e24
    refine HL.still (Runs.assign e24) ?_
    intro u2 e2
    refine HL.nil ?_
    refine HW.ret ?_
    exact RT.one rfl e2 ⟨rfl, Bel.refl _ _⟩
set_option maxRecDepth 10000 in
theorem atR_ch {F : Nat → Prop} (h : Heap) (q y : Nat) (W : Blobs) (o : Bool) (x : Dg) (hT : Rbt F h q y W o) (hW : ∀ p ∈ W, p.1 = shaD p.2 ∧ p.2.length ≤ 100000) (hl : W.length ≤ 1000000) : CH Try.prog 56 #[.pointer (some ⟨q, 0, none⟩), keyV x] h fun v h' => v = I64 (idxO W x) ∧ Ext h h' := by
  obtain ⟨ba, bc, l, hs, hB, hbc, hlM, -⟩ := hT
  refine CH.of_body Try.func56 rfl rfl rfl ?_
  intro f hf
  have p0 : f 0 = .pointer (some ⟨q, 0, none⟩) := by rw [hf]; exact fr0_at rfl
  have p1 : f 1 = keyV x := by rw [hf]; exact fr0_at rfl
  -- region 0
  repeat refine HW.seq ?_
  refine HW.region ?_
  refine HL.one (HO.box p1 ?_)
  intro h1 w1
  intro u3 e3
  refine HL.still (Runs.assign rfl) ?_
  intro u4 e4
  refine HL.nil ?_
  have hx1 : h1[h.size]? = some (.cells (encD x).toArray 31 (0, 0)) := w1.new
  have z1 := w1.size
  -- region 1
  repeat refine HW.seq ?_
  refine HW.region ?_
  refine HL.still (Runs.assign rfl) ?_
  intro u5 e5
  refine HL.nil ?_
  repeat refine HW.seq ?_
  refine HW.block ?_
  refine HW.loop (fun m f u => ∃ k : Nat, k ≤ W.length ∧ m = W.length - k ∧ f 5 = I64 k ∧ f 0 = .pointer (some ⟨q, 0, none⟩) ∧ f 3 = .pointer (some ⟨h.size, 0, none⟩) ∧ Ext h1 u ∧ ∀ j, j < k → ((W.getD j (zD, [])).1 == x) = false) W.length
    ⟨0, Nat.zero_le _, rfl, e5, p0, e3, Bel.refl _ _, fun j hj => by omega⟩ ?_
  clear e4 e5 e3
  rintro m f u ⟨k, hk, hm, f5, f0, f3, hX, hall⟩
  have hsu := hX.keepE (w1.keep hs)
  have hxu := hX.keepE hx1
  have hXh : Ext h u := w1.ext.ext hX (by omega)
  by_cases hlt : k < W.length
  · obtain ⟨sb, so, b1, c1, rfl, hcell, hby, hle⟩ := row_at (hB.ext hXh) hlM hlt
    have hmem : W.getD k (zD, []) ∈ W := by rw [List.getD_eq_getElem?_getD, List.getElem?_eq_getElem hlt]; exact List.getElem_mem hlt
    obtain ⟨hp1, hp2⟩ := hW _ hmem
    obtain ⟨p, hp⟩ : ∃ p, p = W.getD k (zD, []) := ⟨_, rfl⟩
    rw [← hp] at hcell hby hle hp1 hp2
    -- region 2
    repeat refine HW.seq ?_
    refine HW.region ?_
    refine HL.still (Runs.move f5) ?_
    intro u6 e6
    refine HL.still (Runs.move f0) ?_
    intro u7 e7
    refine HL.still (Runs.nilc e7) ?_
    intro u8 e8
    refine HL.still (Runs.fld (o' := 1) Try.underlying56 rfl sz22 (by decide) e8 (by rfl)) ?_
    intro u9 e9
    refine HL.still (Runs.load Try.underlying22 rfl e9 (by rw [cellH_of hsu]; rfl)) ?_
    intro u10 e10
    refine HL.still (Runs.lenSl rfl Try.underlying22 e10) ?_
    intro u11 e11
    refine HL.still (Runs.lss e6 e11 rfl) ?_
    intro u12 e12
    refine HL.nil ?_
    repeat refine HW.seq ?_
    refine HW.yes ?_ ?_
    exact e12.trans (congrArg Value.bool (decide_eq_true (by omega)))
    refine HW.skip ?_
    repeat refine HW.seq ?_
    refine HW.block ?_
    have hsha : ((shaD p.2) == x) = (p.1 == x) := by rw [hp1]
    -- region 4
    repeat refine HW.seq ?_
    refine HW.grow #[0, 1, 3, 7, 0, 31, 63, 127, 0, 511] (fun a b => Ext a b) mixed (by kernel_rfl) (fun _ => Bel.refl _ _) (fun _ _ _ x y => Bel.ext x y (Nat.le_refl _)) ?_
    refine HM.still (fun _ => Bel.refl _ _) (fun f h K => Runs.move ((K.keep (by kernel_rfl)).trans f0)) ?_
    refine HM.still (fun _ => Bel.refl _ _) (fun f h K => Runs.nilc (K.at 0 15 rfl rfl)) ?_
    refine HM.still (fun _ => Bel.refl _ _) (fun f h K => Runs.fld (o' := 1) Try.underlying56 rfl sz22 (by decide) (K.at 1 16 rfl rfl) (by rfl)) ?_
    refine HM.still (fun _ => Bel.refl _ _) (fun f h K => Runs.load Try.underlying22 rfl (K.at 2 17 rfl rfl) (by rw [cellH_of (Bel.keepE K.grown hsu)]; rfl)) ?_
    refine HM.still (fun _ => Bel.refl _ _) (fun f h K => Runs.move ((K.keep (by kernel_rfl)).trans f5)) ?_
    refine HM.still (fun _ => Bel.refl _ _) (fun f h K => Runs.ixSl (o' := so + k) Try.underlying22 sz29 (K.at 3 18 rfl rfl) (K.at 4 19 rfl rfl) (by omega) (by omega) (by omega)) ?_
    refine HM.still (fun _ => Bel.refl _ _) (fun f h K => Runs.load Try.underlying29 rfl (K.at 5 20 rfl rfl) (by rw [cellH_keep (Bel.old K.grown sb (lt_of_cellH hcell))]; exact hcell)) ?_
    refine HM.one (fun x _ => x = _) (fun _ _ _ _ e => e) (fun f h K => HO.call Try.func20 bd20 nm20 (args1 (K.at 6 21 rfl rfl)) rfl ((rsum_ch h p.2 b1 c1 (hby.ext K.grown) (by omega)).mono fun _ _ q => ⟨q.2, q.1⟩)) ?_
    refine HM.still (fun _ => Bel.refl _ _) (fun f h K => Runs.loadAgg Try.underlying31 rfl sz31 ((K.keep (by kernel_rfl)).trans f3) (encD_len x) (load_blk (Bel.keepE K.grown hxu))) ?_
    refine HM.still (fun _ => Bel.refl _ _) (fun f h K => Runs.eqBytes Try.underlying31 Try.underlying5 sz5 eg31 (K.at 7 22 rfl rfl) (K.at 8 23 rfl rfl) (t := shaD p.2 == x) (shaD p.2).2 x.2 rfl) ?_
    intro f' h2 hR V O
    have g24 : f' 24 = .bool (p.1 == x) := (last_at V 9 24 rfl : f' 24 = .bool (shaD p.2 == x)).trans (congrArg Value.bool hsha)
    have q0 := (last_keep O (s := 0) (by kernel_rfl)).trans f0
    have q3 := (last_keep O (s := 3) (by kernel_rfl)).trans f3
    have q5 := (last_keep O (s := 5) (by kernel_rfl)).trans f5
    have hX2 : Ext h h2 := hXh.ext hR (Nat.le_refl _)
    cases he : p.1 == x with
    | true =>
      rw [he] at g24
      refine HW.yes g24 ?_
      -- region 5
      repeat refine HW.seq ?_
      refine HW.region ?_
      refine HL.still (Runs.move q5) ?_
      intro u25 e25
      refine HL.still (Runs.assign e25) ?_
      intro u4 e4
      refine HL.nil ?_
      refine HW.ret ?_
      exact RT.one rfl e4 ⟨by rw [idx_at hlt hall (by rw [← hp]; exact he)], hX2⟩
    | false =>
      rw [he] at g24
      refine HW.no g24 ?_
      refine HW.skip ?_
      -- region 3
      repeat refine HW.seq ?_
      refine HW.region ?_
      refine HL.still (Runs.move q5) ?_
      intro u13 e13
      refine HL.still (Runs.add e13 rfl (i64w (by omega))) ?_
      intro u14 e14
      refine HL.still (Runs.assign e14) ?_
      intro u5 e5
      refine HL.nil ?_
      refine ⟨W.length - (k + 1), by omega, k + 1, by omega, rfl, e5, q0, q3, hX.ext hR (Nat.le_refl _), fun j hj => ?_⟩
      by_cases e : j = k
      · rw [e, ← hp]; exact he
      · exact hall j (by omega)
  · have hkl : k = W.length := by omega
    subst hkl
    -- region 2
    repeat refine HW.seq ?_
    refine HW.region ?_
    refine HL.still (Runs.move f5) ?_
    intro u6 e6
    refine HL.still (Runs.move f0) ?_
    intro u7 e7
    refine HL.still (Runs.nilc e7) ?_
    intro u8 e8
    refine HL.still (Runs.fld (o' := 1) Try.underlying56 rfl sz22 (by decide) e8 (by rfl)) ?_
    intro u9 e9
    refine HL.still (Runs.load Try.underlying22 rfl e9 (by rw [cellH_of hsu]; rfl)) ?_
    intro u10 e10
    refine HL.still (Runs.lenSl rfl Try.underlying22 e10) ?_
    intro u11 e11
    refine HL.still (Runs.lss e6 e11 rfl) ?_
    intro u12 e12
    refine HL.nil ?_
    repeat refine HW.seq ?_
    refine HW.no ?_ ?_
    exact e12.trans (congrArg Value.bool (decide_eq_false (by omega)))
    refine HW.exitHere ?_
    -- region 6
    repeat refine HW.seq ?_
    refine HW.region ?_
    refine HL.still (Runs.assign rfl) ?_
    intro u4 e4
    refine HL.nil ?_
    refine HW.ret ?_
    exact RT.one rfl e4 ⟨by rw [idx_end hall], hXh⟩
end Go.Proofs.Ytklelhfgbjpifaa
/-! The document's batch: bytes, Put, Get. -/
namespace Go.Proofs.Ytklelhfgbjpifaa
set_option linter.unnecessarySimpa false
set_option linter.unusedSimpArgs false
set_option linter.unusedVariables false
open Go.RowKit
theorem size_neg (M : Blobs) (x : Dg) : decide (sizeO M x < 0) = !(lookM M x).isSome := by
  unfold sizeO
  cases lookM M x with
  | none => rfl
  | some v => simp
theorem size_geq (M : Blobs) (x : Dg) : decide (sizeO M x ≥ 0) = (lookM M x).isSome := by
  unfold sizeO
  cases lookM M x with
  | none => rfl
  | some v => simp
theorem idx_geq (W : Blobs) (x : Dg) : decide (idxO W x ≥ 0) = (lookM W x).isSome := by
  rcases idx_look W x with ⟨q1, q2⟩ | ⟨i, _, q1, q2⟩
  · rw [q1, q2]; rfl
  · rw [q1, q2]; simp
set_option maxRecDepth 10000 in
theorem bytesR_ch {F FS : Nat → Prop} (h : Heap) (q y : Nat) (room : Int) (W M R : Blobs) (o : Bool) (hT : Rbt F h q y W o) (hR : Rst FS h y room R) (hrel : Rel M R) (hW : ∀ p ∈ W, p.1 = shaD p.2 ∧ p.2.length ≤ 100000) (htW : tot W ≤ 1000000000) (hl : W.length ≤ 1000000) (hlM : M.length ≤ 1000000) : CH Try.prog 58 #[.pointer (some ⟨q, 0, none⟩)] h fun v h' => v = I64 (needO M W : Int) ∧ Ext h h' := by
  obtain ⟨ba, bc, l, hs, hB, hbc, hlW, -⟩ := hT
  refine CH.of_body Try.func58 rfl rfl rfl ?_
  intro f hf
  have p0 : f 0 = .pointer (some ⟨q, 0, none⟩) := by rw [hf]; exact fr0_at rfl
  -- region 0
  repeat refine HW.seq ?_
  refine HW.region ?_
  refine HL.still (Runs.assign rfl) ?_
  intro u2 e2
  refine HL.nil ?_
  -- region 1
  repeat refine HW.seq ?_
  refine HW.region ?_
  refine HL.still (Runs.assign rfl) ?_
  intro u3 e3
  refine HL.nil ?_
  -- region 2
  repeat refine HW.seq ?_
  refine HW.region ?_
  refine HL.still (Runs.assign rfl) ?_
  intro u4 e4
  refine HL.nil ?_
  repeat refine HW.seq ?_
  refine HW.block ?_
  refine HW.loop (fun m f u => ∃ k : Nat, k ≤ W.length ∧ m = W.length - k ∧ f 4 = I64 k ∧ f 0 = .pointer (some ⟨q, 0, none⟩) ∧ f 3 = I64 (needO M (W.take k) : Int) ∧ Ext h u) W.length
    ⟨0, Nat.zero_le _, rfl, e4, p0, e3, Bel.refl _ _⟩ ?_
  clear e2 e3 e4
  rintro m f u ⟨k, hk, hm, f4, f0, f3, hX⟩
  have hsu := hX.keepE hs
  by_cases hlt : k < W.length
  · obtain ⟨sb, so, b1, c1, rfl, hcell, hby, hle⟩ := row_at (hB.ext hX) hlW hlt
    have hmem : W.getD k (zD, []) ∈ W := by rw [List.getD_eq_getElem?_getD, List.getElem?_eq_getElem hlt]; exact List.getElem_mem hlt
    obtain ⟨hp1, hp2⟩ := hW _ hmem
    have hnt := need_take M W hlt
    have hnl := need_take_le M W (k + 1)
    obtain ⟨p, hp⟩ : ∃ p, p = W.getD k (zD, []) := ⟨_, rfl⟩
    rw [← hp] at hcell hby hle hp1 hp2 hnt
    -- region 3
    repeat refine HW.seq ?_
    refine HW.region ?_
    refine HL.still (Runs.move f4) ?_
    intro u5 e5
    refine HL.still (Runs.move f0) ?_
    intro u6 e6
    refine HL.still (Runs.nilc e6) ?_
    intro u7 e7
    refine HL.still (Runs.fld (o' := 1) Try.underlying56 rfl sz22 (by decide) e7 (by rfl)) ?_
    intro u8 e8
    refine HL.still (Runs.load Try.underlying22 rfl e8 (by rw [cellH_of hsu]; rfl)) ?_
    intro u9 e9
    refine HL.still (Runs.lenSl rfl Try.underlying22 e9) ?_
    intro u10 e10
    refine HL.still (Runs.lss e5 e10 rfl) ?_
    intro u11 e11
    refine HL.nil ?_
    repeat refine HW.seq ?_
    refine HW.yes ?_ ?_
    exact e11.trans (congrArg Value.bool (decide_eq_true (by omega)))
    refine HW.skip ?_
    repeat refine HW.seq ?_
    refine HW.block ?_
    have hR' := hR.ext hX
    -- region 5
    repeat refine HW.seq ?_
    refine HW.grow #[0, 1, 3, 7, 0, 16, 48, 112, 0, 496, 1008, 2032, 4095, 8191] (fun a b => Ext a b) mixed (by kernel_rfl) (fun _ => Bel.refl _ _) (fun _ _ _ x y => Bel.ext x y (Nat.le_refl _)) ?_
    refine HM.still (fun _ => Bel.refl _ _) (fun f h K => Runs.move ((K.keep (by kernel_rfl)).trans f0)) ?_
    refine HM.still (fun _ => Bel.refl _ _) (fun f h K => Runs.nilc (K.at 0 14 rfl rfl)) ?_
    refine HM.still (fun _ => Bel.refl _ _) (fun f h K => Runs.fld (o' := 0) Try.underlying56 rfl sz27 (by decide) (K.at 1 15 rfl rfl) (by rfl)) ?_
    refine HM.still (fun _ => Bel.refl _ _) (fun f h K => Runs.load Try.underlying27 rfl (K.at 2 16 rfl rfl) (by rw [cellH_of (Bel.keepE K.grown hsu)]; rfl)) ?_
    refine HM.still (fun _ => Bel.refl _ _) (fun f h K => Runs.move ((K.keep (by kernel_rfl)).trans f0)) ?_
    refine HM.still (fun _ => Bel.refl _ _) (fun f h K => Runs.nilc (K.at 4 18 rfl rfl)) ?_
    refine HM.still (fun _ => Bel.refl _ _) (fun f h K => Runs.fld (o' := 1) Try.underlying56 rfl sz22 (by decide) (K.at 5 19 rfl rfl) (by rfl)) ?_
    refine HM.still (fun _ => Bel.refl _ _) (fun f h K => Runs.load Try.underlying22 rfl (K.at 6 20 rfl rfl) (by rw [cellH_of (Bel.keepE K.grown hsu)]; rfl)) ?_
    refine HM.still (fun _ => Bel.refl _ _) (fun f h K => Runs.move ((K.keep (by kernel_rfl)).trans f4)) ?_
    refine HM.still (fun _ => Bel.refl _ _) (fun f h K => Runs.ixSl (o' := so + k) Try.underlying22 sz29 (K.at 7 21 rfl rfl) (K.at 8 22 rfl rfl) (by omega) (by omega) (by omega)) ?_
    refine HM.still (fun _ => Bel.refl _ _) (fun f h K => Runs.load Try.underlying29 rfl (K.at 9 23 rfl rfl) (by rw [cellH_keep (Bel.old K.grown sb (lt_of_cellH hcell))]; exact hcell)) ?_
    refine HM.one (fun x _ => x = _) (fun _ _ _ _ e => e) (fun f h K => HO.call Try.func20 bd20 nm20 (args1 (K.at 10 24 rfl rfl)) rfl ((rsum_ch h p.2 b1 c1 (hby.ext K.grown) (by omega)).mono fun _ _ q => ⟨q.2, q.1⟩)) ?_
    refine HM.one (fun x _ => x = _) (fun _ _ _ _ e => e) (fun f h K => HO.call Try.func25 bd25 nm25 (args2 (K.at 3 17 rfl rfl) (K.at 11 25 rfl rfl)) rfl ((sizeRX_ch h y room M R (shaD p.2) hrel (hR'.ext K.grown) hlM).mono fun _ _ q => ⟨q.2, q.1⟩)) ?_
    refine HM.still (fun _ => Bel.refl _ _) (fun f h K => Runs.lss (K.at 12 26 rfl rfl) rfl (t := !(lookM M p.1).isSome) (by rw [← hp1]; exact size_neg M p.1)) ?_
    intro f' h2 hR2 V O
    have g27 : f' 27 = .bool (!(lookM M p.1).isSome) := last_at V 13 27 rfl
    have q0 := (last_keep O (s := 0) (by kernel_rfl)).trans f0
    have q3 := (last_keep O (s := 3) (by kernel_rfl)).trans f3
    have q4 := (last_keep O (s := 4) (by kernel_rfl)).trans f4
    have hE : Ext u h2 := hR2
    have hs2 := hE.keepE hsu
    cases hin : (lookM M p.1).isSome with
    | true =>
      rw [hin] at g27 hnt
      rw [if_pos rfl, Nat.add_zero] at hnt
      refine HW.no g27 ?_
      refine HW.skip ?_
      -- region 4
      repeat refine HW.seq ?_
      refine HW.region ?_
      refine HL.still (Runs.move q4) ?_
      intro u12 e12
      refine HL.still (Runs.add e12 rfl (i64w (by omega))) ?_
      intro u13 e13
      refine HL.still (Runs.assign e13) ?_
      intro u4 e4
      refine HL.nil ?_
      exact ⟨W.length - (k + 1), by omega, k + 1, by omega, rfl, e4, q0, by rw [hnt]; exact q3, hX.ext hE (Nat.le_refl _)⟩
    | false =>
      rw [hin] at g27 hnt
      rw [if_neg (by decide)] at hnt
      refine HW.yes g27 ?_
      -- region 6
      repeat refine HW.seq ?_
      refine HW.region ?_
      refine HL.still (Runs.move q3) ?_
      intro u28 e28
      refine HL.still (Runs.move q0) ?_
      intro u29 e29
      refine HL.still (Runs.nilc e29) ?_
      intro u30 e30
      refine HL.still (Runs.fld (o' := 1) Try.underlying56 rfl sz22 (by decide) e30 (by rfl)) ?_
      intro u31 e31
      refine HL.still (Runs.load Try.underlying22 rfl e31 (by rw [cellH_of hs2]; rfl)) ?_
      intro u32 e32
      refine HL.still (Runs.move q4) ?_
      intro u33 e33
      refine HL.still (Runs.ixSl (o' := so + k) Try.underlying22 sz29 e32 e33 (by omega) (by omega) (by omega)) ?_
      intro u34 e34
      refine HL.still (Runs.load Try.underlying29 rfl e34 (by rw [cellH_keep (hE.old sb (lt_of_cellH hcell))]; exact hcell)) ?_
      intro u35 e35
      refine HL.still (Runs.lenSl rfl Try.underlying29 e35) ?_
      intro u36 e36
      refine HL.still (Runs.add e28 e36 (i64w (by omega))) ?_
      intro u37 e37
      refine HL.still (Runs.assign e37) ?_
      intro u3 e3
      refine HL.nil ?_
      -- region 4
      repeat refine HW.seq ?_
      refine HW.region ?_
      refine HL.still (Runs.move q4) ?_
      intro u12 e12
      refine HL.still (Runs.add e12 rfl (i64w (by omega))) ?_
      intro u13 e13
      refine HL.still (Runs.assign e13) ?_
      intro u4 e4
      refine HL.nil ?_
      exact ⟨W.length - (k + 1), by omega, k + 1, by omega, rfl, e4, q0, by rw [hnt, Int.natCast_add]; exact e3, hX.ext hE (Nat.le_refl _)⟩
  · have hkl : k = W.length := by omega
    subst hkl
    rw [List.take_length] at f3
    -- region 3
    repeat refine HW.seq ?_
    refine HW.region ?_
    refine HL.still (Runs.move f4) ?_
    intro u5 e5
    refine HL.still (Runs.move f0) ?_
    intro u6 e6
    refine HL.still (Runs.nilc e6) ?_
    intro u7 e7
    refine HL.still (Runs.fld (o' := 1) Try.underlying56 rfl sz22 (by decide) e7 (by rfl)) ?_
    intro u8 e8
    refine HL.still (Runs.load Try.underlying22 rfl e8 (by rw [cellH_of hsu]; rfl)) ?_
    intro u9 e9
    refine HL.still (Runs.lenSl rfl Try.underlying22 e9) ?_
    intro u10 e10
    refine HL.still (Runs.lss e5 e10 rfl) ?_
    intro u11 e11
    refine HL.nil ?_
    repeat refine HW.seq ?_
    refine HW.no ?_ ?_
    exact e11.trans (congrArg Value.bool (decide_eq_false (by omega)))
    refine HW.exitHere ?_
    -- region 7
    repeat refine HW.seq ?_
    refine HW.region ?_
    refine HL.still (Runs.move f3) ?_
    intro u38 e38
    refine HL.still (Runs.assign e38) ?_
    intro u2 e2
    refine HL.nil ?_
    refine HW.ret ?_
    exact RT.one rfl e2 ⟨rfl, hX⟩
theorem sz56 : (Try.prog.info? 56).map (·.size) = some 3 := by kernel_rfl
set_option maxRecDepth 10000 in
theorem getRB_ch {F FS : Nat → Prop} (h : Heap) (q y : Nat) (room : Int) (W M R : Blobs) (x : Dg) (hT : Rbt F h q y W false) (hR : Rst FS h y room R) (hrel : Rel M R) (hW : ∀ p ∈ W, p.1 = shaD p.2 ∧ p.2.length ≤ 100000) (hl : W.length ≤ 1000000) (hlM : M.length ≤ 1000000) :
    CH Try.prog 43 #[.pointer (some ⟨q, 0, none⟩), keyV x] h fun v h' => ∃ a c, v = .tuple #[.slice a (getO W M x).1.length c, .bool (getO W M x).2] ∧ Byt h' a (getO W M x).1 ∧ (getO W M x).1.length ≤ c ∧ Ext h h' := by
  obtain ⟨ba, bc, l, hs, hB, hbc, hlW, -⟩ := id hT
  refine CH.of_body Try.func43 rfl rfl rfl ?_
  intro f hf
  have p0 : f 0 = .pointer (some ⟨q, 0, none⟩) := by rw [hf]; exact fr0_at rfl
  have p1 : f 1 = keyV x := by rw [hf]; exact fr0_at rfl
  -- region 0
  repeat refine HW.seq ?_
  refine HW.region ?_
  refine HL.one (HO.box p1 ?_)
  intro h1 w1
  intro u3 e3
  refine HL.still (Runs.assign rfl) ?_
  intro u4 e4
  refine HL.still (Runs.assign rfl) ?_
  intro u5 e5
  refine HL.nil ?_
  have hx1 : h1[h.size]? = some (.cells (encD x).toArray 31 (0, 0)) := w1.new
  -- region 1
  repeat refine HW.seq ?_
  refine HW.region ?_
  refine HL.still (Runs.move p0) ?_
  intro u7 e7
  refine HL.still (Runs.nilc e7) ?_
  intro u8 e8
  refine HL.still (Runs.fld (o' := 2) Try.underlying56 rfl sz4 (by decide) e8 (by rfl)) ?_
  intro u9 e9
  refine HL.still (Runs.load Try.underlying4 rfl e9 (by rw [cellH_of (w1.keep hs)]; rfl)) ?_
  intro u10 e10
  refine HL.nil ?_
  refine HW.no e10 ?_
  refine HW.skip ?_
  -- region 3
  repeat refine HW.seq ?_
  refine HW.region ?_
  refine HL.still (Runs.move p0) ?_
  intro u11 e11
  refine HL.still (Runs.loadAgg Try.underlying31 rfl sz31 e3 (encD_len x) (load_blk hx1)) ?_
  intro u12 e12
  refine HL.one (HO.call Try.func56 bd56 nm56 (args2 e11 e12) rfl ((atR_ch h1 q y W false x (hT.ext w1.ext) hW hl).mono ?_))
  rintro _ h2 ⟨rfl, X2⟩
  intro u13 e13
  refine HL.still (Runs.assign e13) ?_
  intro u6 e6
  refine HL.nil ?_
  have hX2 : Ext h h2 := w1.ext.ext X2 (Nat.le_refl _)
  rcases idx_look W x with ⟨i1, i2⟩ | ⟨i, hi, i1, i2⟩
  · have g6 : u6 = I64 (-1) := e6.trans (by rw [i1])
    have hg : getO W M x = ((lookM M x).getD [], (lookM M x).isSome) := by unfold getO; rw [i2]
    -- region 4
    repeat refine HW.seq ?_
    refine HW.region ?_
    refine HL.still (Runs.move g6) ?_
    intro u14 e14
    refine HL.still (Runs.geq e14 rfl (t := false) rfl) ?_
    intro u15 e15
    refine HL.nil ?_
    refine HW.no e15 ?_
    refine HW.skip ?_
    obtain ⟨bs, hbs⟩ : ∃ bs, bs = (lookM M x).getD [] := ⟨_, rfl⟩
    obtain ⟨qq, hq⟩ : ∃ qq, qq = (lookM M x).isSome := ⟨_, rfl⟩
    rw [← hbs, ← hq] at hg
    have hs2 := hX2.keepE hs
    have hx2 := X2.keepE hx1
    have hR2 := hR.ext hX2
    -- region 6
    repeat refine HW.seq ?_
    refine HW.grow #[0, 1, 3, 7, 0, 31, 63, 63, 255, 511] (fun a b => Ext a b) mixed (by kernel_rfl) (fun _ => Bel.refl _ _) (fun _ _ _ x y => Bel.ext x y (Nat.le_refl _)) ?_
    refine HM.still (fun _ => Bel.refl _ _) (fun f h K => Runs.move ((K.keep (by kernel_rfl)).trans p0)) ?_
    refine HM.still (fun _ => Bel.refl _ _) (fun f h K => Runs.nilc (K.at 0 23 rfl rfl)) ?_
    refine HM.still (fun _ => Bel.refl _ _) (fun f h K => Runs.fld (o' := 0) Try.underlying56 rfl sz27 (by decide) (K.at 1 24 rfl rfl) (by rfl)) ?_
    refine HM.still (fun _ => Bel.refl _ _) (fun f h K => Runs.load Try.underlying27 rfl (K.at 2 25 rfl rfl) (by rw [cellH_of (Bel.keepE K.grown hs2)]; rfl)) ?_
    refine HM.still (fun _ => Bel.refl _ _) (fun f h K => Runs.loadAgg Try.underlying31 rfl sz31 ((K.keep (by kernel_rfl)).trans e3) (encD_len x) (load_blk (Bel.keepE K.grown hx2))) ?_
    refine HM.one (fun v hh => ∃ a c, v = .tuple #[.slice a bs.length c, .bool qq] ∧ Byt hh a bs ∧ bs.length ≤ c) (fun v u u' X ⟨a, c, q1, q2, q3⟩ => ⟨a, c, q1, q2.ext X, q3⟩) (fun f h K => HO.call Try.func22 bd22 nm22 (args2 (K.at 3 26 rfl rfl) (K.at 4 27 rfl rfl)) rfl ((getRX_ch h y room M R x hrel (hR2.ext K.grown) hlM).mono fun v h' ⟨a, c, q1, q2, q3, q4⟩ => ⟨q4, a, c, by rw [hbs, hq]; exact q1, by rw [hbs]; exact q2, by rw [hbs]; exact q3⟩)) ?_
    refine HM.one (fun v hh => ∃ a c, v = .slice a bs.length c ∧ Byt hh a bs ∧ bs.length ≤ c) (fun v u u' X ⟨a, c, q1, q2, q3⟩ => ⟨a, c, q1, q2.ext X, q3⟩) (fun f h K => by obtain ⟨a, c, q1, q2, q3⟩ := K.at 5 28 rfl rfl; exact HO.of_runs (Runs.extr q1 rfl) ⟨Bel.refl _ _, a, c, rfl, q2, q3⟩) ?_
    refine HM.one (fun v hh => v = .bool qq) (fun _ _ _ _ e => e) (fun f h K => by obtain ⟨a, c, q1, q2⟩ := K.at 5 28 rfl rfl; exact HO.of_runs (Runs.extr q1 rfl) ⟨Bel.refl _ _, rfl⟩) ?_
    refine HM.one (fun v hh => ∃ a c, v = .slice a bs.length c ∧ Byt hh a bs ∧ bs.length ≤ c) (fun v u u' X ⟨a, c, q1, q2, q3⟩ => ⟨a, c, q1, q2.ext X, q3⟩) (fun f h K => HO.of_runs (Runs.assign rfl) ⟨Bel.refl _ _, K.at 6 29 rfl rfl⟩) ?_
    refine HM.still (fun _ => Bel.refl _ _) (fun f h K => Runs.assign (K.at 7 30 rfl rfl)) ?_
    intro f' h3 hR3 V O
    obtain ⟨a, c, g4, B, hc⟩ := last_at V 8 4 rfl
    have g5 : f' 5 = .bool qq := last_at V 9 5 rfl
    refine HW.ret ?_
    exact RT.two rfl g4 g5 ⟨a, c, by rw [hg], by rw [hg]; exact B, by rw [hg]; exact hc, hX2.ext hR3 (Nat.le_refl _)⟩
  · have g6 : u6 = I64 i := e6.trans (by rw [i1])
    have hg : getO W M x = ((W.getD i (zD, [])).2, true) := by unfold getO; rw [i2]
    obtain ⟨sb, so, b1, c1, rfl, hcell, hby, hle⟩ := row_at (hB.ext hX2) hlW hi
    -- region 4
    repeat refine HW.seq ?_
    refine HW.region ?_
    refine HL.still (Runs.move g6) ?_
    intro u14 e14
    refine HL.still (Runs.geq e14 rfl (t := true) (by simp)) ?_
    intro u15 e15
    refine HL.nil ?_
    refine HW.yes e15 ?_
    -- region 5
    repeat refine HW.seq ?_
    refine HW.region ?_
    refine HL.still (Runs.move p0) ?_
    intro u16 e16
    refine HL.still (Runs.nilc e16) ?_
    intro u17 e17
    refine HL.still (Runs.fld (o' := 1) Try.underlying56 rfl sz22 (by decide) e17 (by rfl)) ?_
    intro u18 e18
    refine HL.still (Runs.load Try.underlying22 rfl e18 (by rw [cellH_of (hX2.keepE hs)]; rfl)) ?_
    intro u19 e19
    refine HL.still (Runs.move g6) ?_
    intro u20 e20
    refine HL.still (Runs.ixSl (o' := so + i) Try.underlying22 sz29 e19 e20 (by omega) (by omega) (by omega)) ?_
    intro u21 e21
    refine HL.still (Runs.load Try.underlying29 rfl e21 hcell) ?_
    intro u22 e22
    refine HL.still (Runs.assign e22) ?_
    intro u4 e4
    refine HL.still (Runs.assign rfl) ?_
    intro u5 e5
    refine HL.nil ?_
    refine HW.ret ?_
    exact RT.two rfl e4 e5 ⟨b1, c1, by rw [hg], by rw [hg]; exact hby, by rw [hg]; exact hle, hX2⟩
set_option maxRecDepth 10000 in
theorem getRBO_ch {F : Nat → Prop} (h : Heap) (q y : Nat) (W : Blobs) (x : Dg) (hT : Rbt F h q y W true) : CH Try.prog 43 #[.pointer (some ⟨q, 0, none⟩), keyV x] h fun v h' => v = .tuple #[.slice none 0 0, .bool false] ∧ Ext h h' := by
  obtain ⟨ba, bc, l, hs, -⟩ := id hT
  refine CH.of_body Try.func43 rfl rfl rfl ?_
  intro f hf
  have p0 : f 0 = .pointer (some ⟨q, 0, none⟩) := by rw [hf]; exact fr0_at rfl
  have p1 : f 1 = keyV x := by rw [hf]; exact fr0_at rfl
  -- region 0
  repeat refine HW.seq ?_
  refine HW.region ?_
  refine HL.one (HO.box p1 ?_)
  intro h1 w1
  intro u3 e3
  refine HL.still (Runs.assign rfl) ?_
  intro u4 e4
  refine HL.still (Runs.assign rfl) ?_
  intro u5 e5
  refine HL.nil ?_
  -- region 1
  repeat refine HW.seq ?_
  refine HW.region ?_
  refine HL.still (Runs.move p0) ?_
  intro u7 e7
  refine HL.still (Runs.nilc e7) ?_
  intro u8 e8
  refine HL.still (Runs.fld (o' := 2) Try.underlying56 rfl sz4 (by decide) e8 (by rfl)) ?_
  intro u9 e9
  refine HL.still (Runs.load Try.underlying4 rfl e9 (by rw [cellH_of (w1.keep hs)]; rfl)) ?_
  intro u10 e10
  refine HL.nil ?_
  refine HW.yes e10 ?_
  -- region 2
  repeat refine HW.seq ?_
  refine HW.region ?_
  refine HL.still (Runs.assign rfl) ?_
  intro u4 e4
  refine HL.still (Runs.assign rfl) ?_
  intro u5 e5
  refine HL.nil ?_
  refine HW.ret ?_
  exact RT.two rfl e4 e5 ⟨rfl, w1.ext⟩
end Go.Proofs.Ytklelhfgbjpifaa
/-! The document's batch: Put. -/
namespace Go.Proofs.Ytklelhfgbjpifaa
set_option linter.unnecessarySimpa false
set_option linter.unusedSimpArgs false
set_option linter.unusedVariables false
open Go.RowKit
set_option maxRecDepth 10000 in
theorem putRBO_ch {F : Nat → Prop} (h : Heap) (q y : Nat) (W : Blobs) (a : Option Addr) (n cap : Nat) (hT : Rbt F h q y W true) : CH Try.prog 38 #[.pointer (some ⟨q, 0, none⟩), .slice a n cap] h fun v h' => v = .tuple #[keyV zD, I64 11] ∧ Ext h h' := by
  obtain ⟨ba, bc, l, hs, -⟩ := id hT
  refine CH.of_body Try.func38 rfl rfl rfl ?_
  intro f hf
  have p0 : f 0 = .pointer (some ⟨q, 0, none⟩) := by rw [hf]; exact fr0_at rfl
  -- region 0
  repeat refine HW.seq ?_
  refine HW.region ?_
  refine HL.one (HO.alloc zr31 ?_)
  intro h4 w4
  intro u4 e4
  refine HL.still (Runs.assign rfl) ?_
  intro u5 e5
  refine HL.nil ?_
  -- region 1
  repeat refine HW.seq ?_
  refine HW.region ?_
  refine HL.still (Runs.move p0) ?_
  intro u7 e7
  refine HL.still (Runs.nilc e7) ?_
  intro u8 e8
  refine HL.still (Runs.fld (o' := 2) Try.underlying56 rfl sz4 (by decide) e8 (by rfl)) ?_
  intro u9 e9
  refine HL.still (Runs.load Try.underlying4 rfl e9 (by rw [cellH_of (w4.keep hs)]; rfl)) ?_
  intro u10 e10
  refine HL.nil ?_
  refine HW.yes e10 ?_
  -- region 2
  repeat refine HW.seq ?_
  refine HW.region ?_
  refine HL.still (Runs.buildZ31) ?_
  intro u11 e11
  refine HL.zero (HO.storeAll sz31 e4 e11 (one_map B8 (fun _ => rfl) _) w4.new rfl (by simp) ?_)
  intro h8 w8
  refine HL.still (Runs.assign rfl) ?_
  intro u5 e5
  refine HL.nil ?_
  refine HW.ret ?_
  exact RT.cellTmp rfl e4 e5 w8.new Try.underlying31 rfl sz31 rfl ⟨rfl, w4.ext.wr w8 (Nat.le_refl _)⟩
set_option maxRecDepth 10000 in
set_option maxHeartbeats 1000000 in
theorem putRB_ch {F FS : Nat → Prop} (h : Heap) (q y : Nat) (room : Int) (W W' M R : Blobs) (xs : List UInt8) (d : Dg) (e : Int) (a : Option Addr) (cap : Nat) (hp : putBO room W M xs = (W', d, e)) (hT : Rbt F h q y W false) (hR : Rst FS h y room R) (hrel : Rel M R) (hsrc : Byt h a xs) (hcap : xs.length ≤ cap) (hlen : xs.length ≤ 100000) (hr : room ≤ 1073741824) (hr0 : 0 ≤ room) (htM : tot M ≤ 1000000000) (hlM : M.length ≤ 1000000) (hW : ∀ p ∈ W, p.1 = shaD p.2 ∧ p.2.length ≤ 100000) (htW : tot W ≤ 1000000000) (hlW : W.length ≤ 1000000) :
    CH Try.prog 38 #[.pointer (some ⟨q, 0, none⟩), .slice a xs.length cap] h fun v h' => v = .tuple #[keyV d, I64 e] ∧ Rbt (fun j => F j ∨ h.size ≤ j) h' q y W' false ∧ ExB q h h' := by
  obtain ⟨ba, bc, l, hs, hB, hbc, hlM', hFq, hLb, hLl⟩ := id hT
  obtain ⟨_, _, _, _, _, hy0, _⟩ := id hR
  have hll : l.length = W.length := by have := congrArg List.length hlM'; rwa [List.length_map, List.length_map] at this
  refine CH.of_body Try.func38 rfl rfl rfl ?_
  intro f hf
  have p0 : f 0 = .pointer (some ⟨q, 0, none⟩) := by rw [hf]; exact fr0_at rfl
  have p1 : f 1 = .slice a xs.length cap := by rw [hf]; exact fr0_at rfl
  -- region 0
  repeat refine HW.seq ?_
  refine HW.region ?_
  refine HL.one (HO.alloc zr31 ?_)
  intro h4 w4
  intro u4 e4
  refine HL.still (Runs.assign rfl) ?_
  intro u5 e5
  refine HL.nil ?_
  have z4 := w4.size
  have hql := hT.lt
  -- region 1
  repeat refine HW.seq ?_
  refine HW.region ?_
  refine HL.still (Runs.move p0) ?_
  intro u7 e7
  refine HL.still (Runs.nilc e7) ?_
  intro u8 e8
  refine HL.still (Runs.fld (o' := 2) Try.underlying56 rfl sz4 (by decide) e8 (by rfl)) ?_
  intro u9 e9
  refine HL.still (Runs.load Try.underlying4 rfl e9 (by rw [cellH_of (w4.keep hs)]; rfl)) ?_
  intro u10 e10
  refine HL.nil ?_
  refine HW.no e10 ?_
  refine HW.skip ?_
  -- region 3
  repeat refine HW.seq ?_
  refine HW.region ?_
  refine HL.still (Runs.move p1) ?_
  intro u12 e12
  refine HL.one (HO.call Try.func20 bd20 nm20 (args1 e12) rfl ((rsum_ch _ xs a cap (hsrc.ext w4.ext) (by omega)).mono ?_))
  rintro _ h2 ⟨rfl, X2⟩
  intro u13 e13
  refine HL.one (HO.alloc zr31 ?_)
  intro h3 w3
  intro u6 e6
  refine HL.zero (HO.storeAll sz31 e6 e13 (one_map B8 (fun _ => rfl) _) w3.new (by rw [List.length_map, SHA_len]) rfl ?_)
  intro h5 w5
  refine HL.nil ?_
  have z2 := X2.size
  have z3 := w3.size
  have z5 := w5.size
  have XA : Ext h h5 := ((w4.ext.ext X2 (Nat.le_refl _)).ext w3.ext (Nat.le_refl _)).wr w5 (by omega)
  have hk5 : h5[h2.size]? = some (.cells (encD (shaD xs)).toArray 31 (0, 0)) := w5.new
  have hr5 : h5[h.size]? = some (.cells ((List.replicate 32 (0 : UInt8)).map B8).toArray 31 (0, 0)) := (w5.old _ (by omega)).trans ((w3.keep (X2.keepE w4.new)))
  have hs5 := XA.keepE hs
  have T5 := hT.ext XA
  have R5 := hR.ext XA
  repeat refine HW.seq ?_
  refine HW.mono (N := fun f' h6 => f' 0 = .pointer (some ⟨q, 0, none⟩) ∧ f' 1 = .slice a xs.length cap ∧ f' 4 = .pointer (some ⟨h.size, 0, none⟩) ∧ f' 6 = .pointer (some ⟨h2.size, 0, none⟩) ∧ f' 26 = .bool ((lookM W (shaD xs)).isSome || (lookM M (shaD xs)).isSome) ∧ Ext h5 h6) ?_ ?_ (fun _ _ _ q => q) (fun _ _ q => q)
  · cases hq : (lookM M (shaD xs)).isSome with
    | true =>
      -- region 4
      repeat refine HW.seq ?_
      refine HW.grow #[0, 1, 3, 7, 0, 31, 63, 127, 255, 255, 1023, 2047, 4095] (fun a b => Ext a b) mixed (by kernel_rfl) (fun _ => Bel.refl _ _) (fun _ _ _ x y => Bel.ext x y (Nat.le_refl _)) ?_
      refine HM.still (fun _ => Bel.refl _ _) (fun f h K => Runs.move ((K.keep (by kernel_rfl)).trans p0)) ?_
      refine HM.still (fun _ => Bel.refl _ _) (fun f h K => Runs.nilc (K.at 0 14 rfl rfl)) ?_
      refine HM.still (fun _ => Bel.refl _ _) (fun f h K => Runs.fld (o' := 0) Try.underlying56 rfl sz27 (by decide) (K.at 1 15 rfl rfl) (by rfl)) ?_
      refine HM.still (fun _ => Bel.refl _ _) (fun f h K => Runs.load Try.underlying27 rfl (K.at 2 16 rfl rfl) (by rw [cellH_of (Bel.keepE K.grown hs5)]; rfl)) ?_
      refine HM.still (fun _ => Bel.refl _ _) (fun f h K => Runs.loadAgg Try.underlying31 rfl sz31 ((K.keep (by kernel_rfl)).trans e6) (encD_len (shaD xs)) (load_blk (Bel.keepE K.grown hk5))) ?_
      refine HM.one (fun x _ => x = _) (fun _ _ _ _ e => e) (fun f h K => HO.call Try.func25 bd25 nm25 (args2 (K.at 3 17 rfl rfl) (K.at 4 18 rfl rfl)) rfl ((sizeRX_ch h y room M R (shaD xs) hrel (R5.ext K.grown) hlM).mono fun _ _ q => ⟨q.2, q.1⟩)) ?_
      refine HM.still (fun _ => Bel.refl _ _) (fun f h K => Runs.geq (K.at 5 19 rfl rfl) rfl (t := true) (by rw [size_geq, hq])) ?_
      refine HM.still (fun _ => Bel.refl _ _) (fun f h K => Runs.move (K.at 6 20 rfl rfl)) ?_
      refine HM.skipG rfl rfl rfl (fun f h K => K.at 7 21 rfl rfl) ?_
      refine HM.skipG rfl rfl rfl (fun f h K => K.at 7 21 rfl rfl) ?_
      refine HM.skipG rfl rfl rfl (fun f h K => K.at 7 21 rfl rfl) ?_
      refine HM.skipG rfl rfl rfl (fun f h K => K.at 7 21 rfl rfl) ?_
      refine HM.still (fun _ => Bel.refl _ _) (fun f h K => Runs.pick (K.at 7 21 rfl rfl) rfl) ?_
      intro f' h6 hR2 V O
      have g26 : f' 26 = .bool true := last_at V 12 26 rfl
      exact ⟨(last_keep O (s := 0) (by kernel_rfl)).trans p0, (last_keep O (s := 1) (by kernel_rfl)).trans p1, (last_keep O (s := 4) (by kernel_rfl)).trans e4, (last_keep O (s := 6) (by kernel_rfl)).trans e6, g26.trans (by simp), hR2⟩
    | false =>
      -- region 4
      repeat refine HW.seq ?_
      refine HW.grow #[0, 1, 3, 7, 0, 31, 63, 127, 255, 255, 1023, 2047, 4095] (fun a b => Ext a b) mixed (by kernel_rfl) (fun _ => Bel.refl _ _) (fun _ _ _ x y => Bel.ext x y (Nat.le_refl _)) ?_
      refine HM.still (fun _ => Bel.refl _ _) (fun f h K => Runs.move ((K.keep (by kernel_rfl)).trans p0)) ?_
      refine HM.still (fun _ => Bel.refl _ _) (fun f h K => Runs.nilc (K.at 0 14 rfl rfl)) ?_
      refine HM.still (fun _ => Bel.refl _ _) (fun f h K => Runs.fld (o' := 0) Try.underlying56 rfl sz27 (by decide) (K.at 1 15 rfl rfl) (by rfl)) ?_
      refine HM.still (fun _ => Bel.refl _ _) (fun f h K => Runs.load Try.underlying27 rfl (K.at 2 16 rfl rfl) (by rw [cellH_of (Bel.keepE K.grown hs5)]; rfl)) ?_
      refine HM.still (fun _ => Bel.refl _ _) (fun f h K => Runs.loadAgg Try.underlying31 rfl sz31 ((K.keep (by kernel_rfl)).trans e6) (encD_len (shaD xs)) (load_blk (Bel.keepE K.grown hk5))) ?_
      refine HM.one (fun x _ => x = _) (fun _ _ _ _ e => e) (fun f h K => HO.call Try.func25 bd25 nm25 (args2 (K.at 3 17 rfl rfl) (K.at 4 18 rfl rfl)) rfl ((sizeRX_ch h y room M R (shaD xs) hrel (R5.ext K.grown) hlM).mono fun _ _ q => ⟨q.2, q.1⟩)) ?_
      refine HM.still (fun _ => Bel.refl _ _) (fun f h K => Runs.geq (K.at 5 19 rfl rfl) rfl (t := false) (by rw [size_geq, hq])) ?_
      refine HM.still (fun _ => Bel.refl _ _) (fun f h K => Runs.move (K.at 6 20 rfl rfl)) ?_
      refine HM.stillG (fun _ => Bel.refl _ _) rfl rfl rfl (fun f h K => K.at 7 21 rfl rfl) (fun f h K => Runs.move ((K.keep (by kernel_rfl)).trans p0)) ?_
      refine HM.stillG (fun _ => Bel.refl _ _) rfl rfl rfl (fun f h K => K.at 7 21 rfl rfl) (fun f h K => Runs.loadAgg Try.underlying31 rfl sz31 ((K.keep (by kernel_rfl)).trans e6) (encD_len (shaD xs)) (load_blk (Bel.keepE K.grown hk5))) ?_
      refine HM.oneG (fun x _ => x = _) (fun _ _ _ _ e => e) rfl rfl rfl (fun f h K => K.at 7 21 rfl rfl) (fun f h K => HO.call Try.func56 bd56 nm56 (args2 (K.at 8 22 rfl rfl) (K.at 9 23 rfl rfl)) rfl ((atR_ch h q y W false (shaD xs) (T5.ext K.grown) hW hlW).mono fun _ _ q => ⟨q.2, q.1⟩)) ?_
      refine HM.stillG (fun _ => Bel.refl _ _) rfl rfl rfl (fun f h K => K.at 7 21 rfl rfl) (fun f h K => Runs.geq (K.at 10 24 rfl rfl) rfl (t := (lookM W (shaD xs)).isSome) (idx_geq W (shaD xs))) ?_
      refine HM.still (fun _ => Bel.refl _ _) (fun f h K => Runs.pick (K.at 7 21 rfl rfl) (K.at 11 25 rfl rfl)) ?_
      intro f' h6 hR2 V O
      have g26 : f' 26 = .bool (lookM W (shaD xs)).isSome := last_at V 12 26 rfl
      exact ⟨(last_keep O (s := 0) (by kernel_rfl)).trans p0, (last_keep O (s := 1) (by kernel_rfl)).trans p1, (last_keep O (s := 4) (by kernel_rfl)).trans e4, (last_keep O (s := 6) (by kernel_rfl)).trans e6, g26.trans (by simp), hR2⟩
  clear e5 e10
  rintro f h6 ⟨f0, f1, f4, f6, f26, X6⟩
  have z6 := X6.size
  have XB : Ext h h6 := XA.ext X6 (Nat.le_refl _)
  have hk6 := X6.keepE hk5
  have hr6 := X6.keepE hr5
  have hs6 := X6.keepE hs5
  rcases putB_cases hp with ⟨c1, rfl, rfl, rfl⟩ | ⟨c1, c2, c3, rfl, rfl, rfl⟩ | ⟨c1, c2, c3, rfl, rfl, rfl⟩
  · have hin : ((lookM W' (shaD xs)).isSome || (lookM M (shaD xs)).isSome) = true := by rcases c1 with q | q <;> rw [q] <;> simp
    refine HW.yes (f26.trans (congrArg Value.bool hin)) ?_
    -- region 5
    repeat refine HW.seq ?_
    refine HW.region ?_
    refine HL.still (Runs.loadAgg Try.underlying31 rfl sz31 f6 (encD_len (shaD xs)) (load_blk hk6)) ?_
    intro u27 e27
    refine HL.zero (HO.storeAll sz31 f4 e27 (one_map B8 (fun _ => rfl) _) hr6 (encD_len _) (by simp) ?_)
    intro h7 w7
    refine HL.still (Runs.assign rfl) ?_
    intro u5 e5
    refine HL.nil ?_
    refine HW.ret ?_
    have XC := XB.wr w7 (Nat.le_refl _)
    exact RT.cellTmp rfl f4 e5 w7.new Try.underlying31 rfl sz31 (encD_len _) ⟨rfl, (hT.ext XC).weaken fun _ _ q => .inl q, ⟨XC.size, fun j hj _ => XC.old j hj⟩⟩
  · have hin : ((lookM W' (shaD xs)).isSome || (lookM M (shaD xs)).isSome) = false := by rw [c1, c2]; rfl
    refine HW.no (f26.trans (congrArg Value.bool hin)) ?_
    refine HW.skip ?_
    have T6 := hT.ext XB
    have R6 := hR.ext XB
    have hy6 := XB.keepE hy0
    -- region 6
    repeat refine HW.seq ?_
    refine HW.grow #[0, 1, 3, 7, 15, 0, 63, 127, 0, 256, 1023, 0, 2048, 6144, 14336, 30720, 63488, 129024, 262143] (fun a b => Ext a b) mixed (by kernel_rfl) (fun _ => Bel.refl _ _) (fun _ _ _ x y => Bel.ext x y (Nat.le_refl _)) ?_
    refine HM.still (fun _ => Bel.refl _ _) (fun f h K => Runs.move ((K.keep (by kernel_rfl)).trans f0)) ?_
    refine HM.still (fun _ => Bel.refl _ _) (fun f h K => Runs.nilc (K.at 0 28 rfl rfl)) ?_
    refine HM.still (fun _ => Bel.refl _ _) (fun f h K => Runs.fld (o' := 0) Try.underlying56 rfl sz27 (by decide) (K.at 1 29 rfl rfl) (by rfl)) ?_
    refine HM.still (fun _ => Bel.refl _ _) (fun f h K => Runs.load Try.underlying27 rfl (K.at 2 30 rfl rfl) (by rw [cellH_of (Bel.keepE K.grown hs6)]; rfl)) ?_
    refine HM.one (fun x _ => x = _) (fun _ _ _ _ e => e) (fun f h K => HO.call Try.func27 bd27 nm27 (args1 (K.at 3 31 rfl rfl)) rfl ((usedRX_ch h y room M R hrel (R6.ext K.grown) htM hlM).mono fun _ _ q => ⟨q.2, q.1⟩)) ?_
    refine HM.still (fun _ => Bel.refl _ _) (fun f h K => Runs.move ((K.keep (by kernel_rfl)).trans f0)) ?_
    refine HM.one (fun x _ => x = _) (fun _ _ _ _ e => e) (fun f h K => HO.call Try.func57 bd57 nm57 (args1 (K.at 5 33 rfl rfl)) rfl ((allR_ch h q y W' false (T6.ext K.grown) htW hlW).mono fun _ _ q => ⟨q.2, q.1⟩)) ?_
    refine HM.still (fun _ => Bel.refl _ _) (fun f h K => Runs.add (K.at 4 32 rfl rfl) (K.at 6 34 rfl rfl) (i64w (by omega))) ?_
    refine HM.still (fun _ => Bel.refl _ _) (fun f h K => Runs.move ((K.keep (by kernel_rfl)).trans f1)) ?_
    refine HM.still (fun _ => Bel.refl _ _) (fun f h K => Runs.lenSl rfl Try.underlying29 (K.at 8 36 rfl rfl)) ?_
    refine HM.still (fun _ => Bel.refl _ _) (fun f h K => Runs.add (K.at 7 35 rfl rfl) (K.at 9 37 rfl rfl) (i64w (by omega))) ?_
    refine HM.still (fun _ => Bel.refl _ _) (fun f h K => Runs.move ((K.keep (by kernel_rfl)).trans f0)) ?_
    refine HM.still (fun _ => Bel.refl _ _) (fun f h K => Runs.nilc (K.at 11 39 rfl rfl)) ?_
    refine HM.still (fun _ => Bel.refl _ _) (fun f h K => Runs.fld (o' := 0) Try.underlying56 rfl sz27 (by decide) (K.at 12 40 rfl rfl) (by rfl)) ?_
    refine HM.still (fun _ => Bel.refl _ _) (fun f h K => Runs.load Try.underlying27 rfl (K.at 13 41 rfl rfl) (by rw [cellH_of (Bel.keepE K.grown hs6)]; rfl)) ?_
    refine HM.still (fun _ => Bel.refl _ _) (fun f h K => Runs.nilc (K.at 14 42 rfl rfl)) ?_
    refine HM.still (fun _ => Bel.refl _ _) (fun f h K => Runs.fld Try.underlying43 rfl sz3 (by decide) (K.at 15 43 rfl rfl) (by rfl)) ?_
    refine HM.still (fun _ => Bel.refl _ _) (fun f h K => Runs.load Try.underlying3 rfl (K.at 16 44 rfl rfl) (show cellH h y 2 = some (I64 room) by rw [cellH_of (Bel.keepE K.grown hy6)]; rfl)) ?_
    refine HM.still (fun _ => Bel.refl _ _) (fun f h K => Runs.gtr (K.at 10 38 rfl rfl) (K.at 17 45 rfl rfl) (t := true) (decide_eq_true (by omega))) ?_
    intro f' h7 hR2 V O
    have hE7 : Ext h6 h7 := hR2
    have q4 := (last_keep O (s := 4) (by kernel_rfl)).trans f4
    have g46 : f' 46 = .bool true := last_at V 18 46 rfl
    refine HW.yes g46 ?_
    -- region 7
    repeat refine HW.seq ?_
    refine HW.region ?_
    refine HL.still (Runs.buildZ31) ?_
    intro u47 e47
    refine HL.zero (HO.storeAll sz31 q4 e47 (one_map B8 (fun _ => rfl) _) (hE7.keepE hr6) rfl (by simp) ?_)
    intro h8 w8
    refine HL.still (Runs.assign rfl) ?_
    intro u5 e5
    refine HL.nil ?_
    refine HW.ret ?_
    have XC := (XB.ext hE7 (Nat.le_refl _)).wr w8 (Nat.le_refl _)
    exact RT.cellTmp rfl q4 e5 w8.new Try.underlying31 rfl sz31 rfl ⟨rfl, (hT.ext XC).weaken fun _ _ q => .inl q, ⟨XC.size, fun j hj _ => XC.old j hj⟩⟩
  · have hin : ((lookM W (shaD xs)).isSome || (lookM M (shaD xs)).isSome) = false := by rw [c1, c2]; rfl
    refine HW.no (f26.trans (congrArg Value.bool hin)) ?_
    refine HW.skip ?_
    have T6 := hT.ext XB
    have R6 := hR.ext XB
    have hy6 := XB.keepE hy0
    -- region 6
    repeat refine HW.seq ?_
    refine HW.grow #[0, 1, 3, 7, 15, 0, 63, 127, 0, 256, 1023, 0, 2048, 6144, 14336, 30720, 63488, 129024, 262143] (fun a b => Ext a b) mixed (by kernel_rfl) (fun _ => Bel.refl _ _) (fun _ _ _ x y => Bel.ext x y (Nat.le_refl _)) ?_
    refine HM.still (fun _ => Bel.refl _ _) (fun f h K => Runs.move ((K.keep (by kernel_rfl)).trans f0)) ?_
    refine HM.still (fun _ => Bel.refl _ _) (fun f h K => Runs.nilc (K.at 0 28 rfl rfl)) ?_
    refine HM.still (fun _ => Bel.refl _ _) (fun f h K => Runs.fld (o' := 0) Try.underlying56 rfl sz27 (by decide) (K.at 1 29 rfl rfl) (by rfl)) ?_
    refine HM.still (fun _ => Bel.refl _ _) (fun f h K => Runs.load Try.underlying27 rfl (K.at 2 30 rfl rfl) (by rw [cellH_of (Bel.keepE K.grown hs6)]; rfl)) ?_
    refine HM.one (fun x _ => x = _) (fun _ _ _ _ e => e) (fun f h K => HO.call Try.func27 bd27 nm27 (args1 (K.at 3 31 rfl rfl)) rfl ((usedRX_ch h y room M R hrel (R6.ext K.grown) htM hlM).mono fun _ _ q => ⟨q.2, q.1⟩)) ?_
    refine HM.still (fun _ => Bel.refl _ _) (fun f h K => Runs.move ((K.keep (by kernel_rfl)).trans f0)) ?_
    refine HM.one (fun x _ => x = _) (fun _ _ _ _ e => e) (fun f h K => HO.call Try.func57 bd57 nm57 (args1 (K.at 5 33 rfl rfl)) rfl ((allR_ch h q y W false (T6.ext K.grown) htW hlW).mono fun _ _ q => ⟨q.2, q.1⟩)) ?_
    refine HM.still (fun _ => Bel.refl _ _) (fun f h K => Runs.add (K.at 4 32 rfl rfl) (K.at 6 34 rfl rfl) (i64w (by omega))) ?_
    refine HM.still (fun _ => Bel.refl _ _) (fun f h K => Runs.move ((K.keep (by kernel_rfl)).trans f1)) ?_
    refine HM.still (fun _ => Bel.refl _ _) (fun f h K => Runs.lenSl rfl Try.underlying29 (K.at 8 36 rfl rfl)) ?_
    refine HM.still (fun _ => Bel.refl _ _) (fun f h K => Runs.add (K.at 7 35 rfl rfl) (K.at 9 37 rfl rfl) (i64w (by omega))) ?_
    refine HM.still (fun _ => Bel.refl _ _) (fun f h K => Runs.move ((K.keep (by kernel_rfl)).trans f0)) ?_
    refine HM.still (fun _ => Bel.refl _ _) (fun f h K => Runs.nilc (K.at 11 39 rfl rfl)) ?_
    refine HM.still (fun _ => Bel.refl _ _) (fun f h K => Runs.fld (o' := 0) Try.underlying56 rfl sz27 (by decide) (K.at 12 40 rfl rfl) (by rfl)) ?_
    refine HM.still (fun _ => Bel.refl _ _) (fun f h K => Runs.load Try.underlying27 rfl (K.at 13 41 rfl rfl) (by rw [cellH_of (Bel.keepE K.grown hs6)]; rfl)) ?_
    refine HM.still (fun _ => Bel.refl _ _) (fun f h K => Runs.nilc (K.at 14 42 rfl rfl)) ?_
    refine HM.still (fun _ => Bel.refl _ _) (fun f h K => Runs.fld Try.underlying43 rfl sz3 (by decide) (K.at 15 43 rfl rfl) (by rfl)) ?_
    refine HM.still (fun _ => Bel.refl _ _) (fun f h K => Runs.load Try.underlying3 rfl (K.at 16 44 rfl rfl) (show cellH h y 2 = some (I64 room) by rw [cellH_of (Bel.keepE K.grown hy6)]; rfl)) ?_
    refine HM.still (fun _ => Bel.refl _ _) (fun f h K => Runs.gtr (K.at 10 38 rfl rfl) (K.at 17 45 rfl rfl) (t := false) (decide_eq_false (by omega))) ?_
    intro f' h7 hR2 V O
    have hE7 : Ext h6 h7 := hR2
    have q0 := (last_keep O (s := 0) (by kernel_rfl)).trans f0
    have q1 := (last_keep O (s := 1) (by kernel_rfl)).trans f1
    have q4 := (last_keep O (s := 4) (by kernel_rfl)).trans f4
    have q6 := (last_keep O (s := 6) (by kernel_rfl)).trans f6
    have g46 : f' 46 = .bool false := last_at V 18 46 rfl
    refine HW.no g46 ?_
    refine HW.skip ?_
    have z7 := hE7.size
    have XC : Ext h h7 := XB.ext hE7 (Nat.le_refl _)
    have hk7 := hE7.keepE hk6
    have hr7 := hE7.keepE hr6
    have hs7 := XC.keepE hs
    have hB7 := hB.ext XC
    have hsrc7 := hsrc.ext XC
    have hml : ∀ n : Nat, n ≤ 1000001 → n ≤ maxLen := fun n hn => Nat.le_trans hn (by decide)
    clear V O hR2 g46
    have hqN : q < h7.size := by omega
    -- region 8
    repeat refine HW.seq ?_
    refine HW.region ?_
    refine HL.still (Runs.move q0) ?_
    intro u48 e48
    refine HL.one (HO.rows0 ?_)
    intro h49 w49
    intro u49 e49
    refine HL.still (Runs.move q0) ?_
    intro u50 e50
    refine HL.still (Runs.nilc e50) ?_
    intro u51 e51
    refine HL.still (Runs.fld (o' := 1) Try.underlying56 rfl sz22 (by decide) e51 (by rfl)) ?_
    intro u52 e52
    refine HL.still (Runs.load Try.underlying22 rfl e52 (by rw [cellH_of (w49.keep hs7)]; rfl)) ?_
    intro u53 e53
    refine HL.one (HO.rapp1 Try.underlying22 in29 rfl one29 e49 e53 rfl hll.symm (Rs.lit (xs := []) w49 (Nat.le_refl h7.size) (Nat.zero_le _)) ((byts_row.1 (hB7.ext w49.ext)).1) (by simp; omega) (hml _ (by simp; omega)) (by rw [w49.size]; omega) ?_)
    intro a54 c54 h54 R54 G54
    intro u54 e54
    refine HL.one (HO.bytes0 ?_)
    intro h55 w55
    intro u55 e55
    have B54 : Bel h7.size h7 h54 := G54.belR w49.ext (Rs.lit (gv := gvB) (xs := []) w49 (Nat.le_refl h7.size) (Nat.zero_le _)) (Nat.le_refl _) (Nat.le_refl _)
    have B55 : Bs h55 h54.size 5 (some ⟨h54.size, 0, none⟩) 0 [] := Bs.lit (xs := []) w55 (Nat.le_refl _) (Nat.zero_le _)
    have X55 : Ext h7 h55 := B54.ext w55.ext (Nat.le_refl _)
    refine HL.still (Runs.move q1) ?_
    intro u56 e56
    refine HL.one (HO.app Try.underlying29 in5 rfl e55 e56 rfl rfl B55 (hsrc7.ext X55) (by simp; omega) (by rw [w55.size]; omega) ?_)
    intro a57 c57 h57 B57 G57
    intro u57 e57
    refine HL.one (HO.rows1 (a57, c57, xs) e57 ?_)
    intro h58 w58
    intro u58 e58
    refine HL.one (HO.rapp1 Try.underlying22 in29 rfl one29 e54 e58 rfl rfl (((R54.ext w55.ext).gr29 B55 G57).ext w58.ext) (row_block (z0 := zB) w58.new) (by simp; omega) (hml _ (by simp; omega)) ((G57.bel X55 B55 B54.size (Nat.le_refl _)).ext w58.ext (Nat.le_refl _)).size ?_)
    intro a59 c59 h59 R59 G59
    intro u59 e59
    have B58 : Bel h7.size h7 h58 := (G57.bel X55 B55 B54.size (Nat.le_refl _)).ext w58.ext (Nat.le_refl _)
    have B59 : Bel h7.size h7 h59 := G59.belR B58 (((R54.ext w55.ext).gr29 B55 G57).ext w58.ext) (Nat.le_refl _) (Nat.le_refl _)
    have D59 : Bs h59 h54.size 5 a57 c57 xs := (B57.ext w58.ext).gr (((R54.ext w55.ext).gr29 B55 G57).ext w58.ext) G59
    refine HL.still (Runs.nilc e48) ?_
    intro u60 e60
    refine HL.still (Runs.fld Try.underlying56 rfl sz22 (by decide) e60 (by rfl)) ?_
    intro u61 e61
    refine HL.zero (HO.store (s := 1) sz22 e61 e59 rfl (B59.keep hs7 hqN) (by simp) rfl ?_)
    intro h60 w60
    refine HL.nil ?_
    have b54 := B54.size
    have b59 := B59.size
    have z60 := w60.size
    clear e57 e58 e59 e54 e55 e53 e49
    have L59 : (l ++ [(a57, c57, xs)]).length = (W ++ [(shaD xs, xs)]).length := by simp [hll]
    have hnew := w60.new
    have R59' : Rs gvB h59 h7.size 29 a59 c59 (l ++ [(a57, c57, xs)]) := R59
    have R60 := R59'.wr w60 hqN
    have D60 := D59.wr w60 (by omega)
    have old60 : ∀ j, j < h7.size → j ≠ q → h60[j]? = h7[j]? := fun j hj hne => (w60.old j hne).trans (B59.old j hj)
    -- region 9
    repeat refine HW.seq ?_
    refine HW.region ?_
    refine HL.still (Runs.loadAgg Try.underlying31 rfl sz31 q6 (encD_len (shaD xs)) (load_blk ((old60 _ (by omega) (by omega)).trans hk7))) ?_
    intro u62 e62
    refine HL.zero (HO.storeAll sz31 q4 e62 (one_map B8 (fun _ => rfl) _) ((old60 _ (by omega) (by omega)).trans hr7) (encD_len _) (by simp) ?_)
    intro h61 w61
    refine HL.still (Runs.assign rfl) ?_
    intro u5 e5
    refine HL.nil ?_
    have z61 := w61.size
    refine HW.ret ?_
    have old61 : ∀ j, j < h.size → j ≠ q → h61[j]? = h[j]? := fun j hj hne => (w61.old j (by omega)).trans ((old60 j (by omega) hne).trans (XC.old j hj))
    refine RT.cellTmp rfl q4 e5 w61.new Try.underlying31 rfl sz31 (encD_len _) ⟨rfl, ⟨a59, c59, l ++ [(a57, c57, xs)], ?_, ?_, ?_, ?_, .inl hFq, ?_, ?_⟩, ⟨by omega, fun j hj hne => old61 j hj hne⟩⟩
    · rw [w61.old q (by omega), ← L59]
      exact hnew
    · have R8 := R60.wr w61 (by omega)
      have b8 := D60.wr w61 (by omega)
      refine byts_row.2 ⟨R8.byt, .inr fun x hx => ?_⟩
      have hall := (byts_row.1 hB).2
      rcases List.mem_append.1 hx with hx | hx
      · rcases hall with r | r
        · rw [r] at hx; cases hx
        · exact ⟨(r x hx).1.keep fun sb so e => old61 sb (hLl x hx sb so e).1 (hLl x hx sb so e).2.2, (r x hx).2⟩
      · rw [List.mem_singleton.1 hx]
        exact ⟨b8.byt, b8.2⟩
    · rw [← L59]
      exact R59'.2
    · simp [List.map_append, hlM']
    · intro sb so e
      rcases Rs.blk R60 with r | ⟨g, r, r1, r2⟩
      · rw [r] at e; cases e
      · rw [r] at e
        cases e
        exact ⟨by omega, .inr (by omega), by omega⟩
    · intro x hx sb so e
      rcases List.mem_append.1 hx with hx | hx
      · obtain ⟨r1, r2, r3⟩ := hLl x hx sb so e
        exact ⟨by omega, .inl r2, r3⟩
      · rw [List.mem_singleton.1 hx] at e
        rcases Rs.blk (gv := B8) D60 with r | ⟨g, r, r1, r2⟩
        · rw [r] at e; cases e
        · rw [r] at e
          cases e
          exact ⟨by omega, .inr (by omega), by omega⟩
end Go.Proofs.Ytklelhfgbjpifaa
/-! The document's batch: Staged, Commit. -/
namespace Go.Proofs.Ytklelhfgbjpifaa
set_option linter.unnecessarySimpa false
set_option linter.unusedSimpArgs false
set_option linter.unusedVariables false
open Go.RowKit
theorem putAll_tot_le (room : Int) (W : Blobs) : ∀ M : Blobs, tot (putAll room M W) ≤ tot M + tot W := by
  induction W with
  | nil => intro M; exact Nat.le_refl _
  | cons p W ih =>
    intro M
    have h1 := ih (putO room M p.2).1
    have h2 := put_tot_le room M p.2
    show tot (putAll room (putO room M p.2).1 W) ≤ _
    rw [tot]
    omega
theorem putAll_totle (room : Int) (M W : Blobs) (k : Nat) (h : tot M + tot W ≤ 1000000000) : tot (putAll room M (W.take k)) ≤ 1000000000 := by
  have h1 := putAll_tot_le room (W.take k) M
  have h2 := tot_take_le W k
  omega
set_option maxRecDepth 10000 in
theorem stagedRB_ch {F : Nat → Prop} (h : Heap) (q y : Nat) (W : Blobs) (hT : Rbt F h q y W false) (hW : ∀ p ∈ W, p.1 = shaD p.2 ∧ p.2.length ≤ 100000) (hl : W.length ≤ 1000000) : CH Try.prog 45 #[.pointer (some ⟨q, 0, none⟩)] h fun v h' => ∃ a c, v = .slice a (W.map (·.1)).length c ∧ Ds h' h.size a c (W.map (·.1)) ∧ Ext h h' := by
  obtain ⟨ba, bc, l, hs, hB, hbc, hlW, -⟩ := id hT
  refine CH.of_body Try.func45 rfl rfl rfl ?_
  intro f hf
  have p0 : f 0 = .pointer (some ⟨q, 0, none⟩) := by rw [hf]; exact fr0_at rfl
  -- region 0
  repeat refine HW.seq ?_
  refine HW.region ?_
  refine HL.still (Runs.assign rfl) ?_
  intro u2 e2
  refine HL.nil ?_
  -- region 1
  repeat refine HW.seq ?_
  refine HW.region ?_
  refine HL.still (Runs.assign rfl) ?_
  intro u3 e3
  refine HL.nil ?_
  -- region 2
  repeat refine HW.seq ?_
  refine HW.region ?_
  refine HL.still (Runs.assign rfl) ?_
  intro u4 e4
  refine HL.nil ?_
  repeat refine HW.seq ?_
  refine HW.block ?_
  refine HW.loop (fun m f u => ∃ k : Nat, k ≤ W.length ∧ m = W.length - k ∧ f 4 = I64 k ∧ f 0 = .pointer (some ⟨q, 0, none⟩) ∧ Ext h u ∧ ∃ a c, f 3 = .slice a ((W.take k).map (·.1)).length c ∧ Ds u h.size a c ((W.take k).map (·.1))) W.length
    ⟨0, Nat.zero_le _, rfl, e4, p0, Bel.refl _ _, none, 0, e3, Ds.start _ _⟩ ?_
  clear e2 e3 e4
  rintro m f u ⟨k, hk, hm, f4, f0, hX, a, c, f3, D⟩
  have hsu := hX.keepE hs
  have hu := hX.size
  by_cases hlt : k < W.length
  · obtain ⟨sb, so, b1, c1, rfl, hcell, hby, hle⟩ := row_at (hB.ext hX) hlW hlt
    have hmem : W.getD k (zD, []) ∈ W := by rw [List.getD_eq_getElem?_getD, List.getElem?_eq_getElem hlt]; exact List.getElem_mem hlt
    obtain ⟨hp1, hp2⟩ := hW _ hmem
    have htk : (W.take (k + 1)).map (·.1) = (W.take k).map (·.1) ++ [shaD (W.getD k (zD, [])).2] := by
      rw [take_succ_getD W (zD, []) hlt, List.map_append, List.map_singleton, hp1]
    have htl : ((W.take k).map (·.1)).length = k := by rw [List.length_map, List.length_take]; omega
    obtain ⟨p, hp⟩ : ∃ p, p = W.getD k (zD, []) := ⟨_, rfl⟩
    rw [← hp] at hcell hby hle hp1 hp2 htk
    -- region 3
    repeat refine HW.seq ?_
    refine HW.region ?_
    refine HL.still (Runs.move f4) ?_
    intro u5 e5
    refine HL.still (Runs.move f0) ?_
    intro u6 e6
    refine HL.still (Runs.nilc e6) ?_
    intro u7 e7
    refine HL.still (Runs.fld (o' := 1) Try.underlying56 rfl sz22 (by decide) e7 (by rfl)) ?_
    intro u8 e8
    refine HL.still (Runs.load Try.underlying22 rfl e8 (by rw [cellH_of hsu]; rfl)) ?_
    intro u9 e9
    refine HL.still (Runs.lenSl rfl Try.underlying22 e9) ?_
    intro u10 e10
    refine HL.still (Runs.lss e5 e10 (t := true) (decide_eq_true (by omega))) ?_
    intro u11 e11
    refine HL.still (Runs.move e11) ?_
    intro u12 e12
    refine HL.stillG rfl rfl e12 (Runs.move f0) ?_
    intro u13 e13
    refine HL.stillG rfl rfl e12 (Runs.nilc e13) ?_
    intro u14 e14
    refine HL.stillG rfl rfl e12 (Runs.fld (o' := 2) Try.underlying56 rfl sz4 (by decide) e14 (by rfl)) ?_
    intro u15 e15
    refine HL.stillG rfl rfl e12 (Runs.load Try.underlying4 rfl e15 (by rw [cellH_of hsu]; rfl)) ?_
    intro u16 e16
    refine HL.stillG rfl rfl e12 (Runs.notb e16 (t := false) (u := true) rfl) ?_
    intro u17 e17
    refine HL.still (Runs.pick e12 e17) ?_
    intro u18 e18
    refine HL.nil ?_
    refine HW.yes e18 ?_
    refine HW.skip ?_
    repeat refine HW.seq ?_
    refine HW.block ?_
    -- region 5
    repeat refine HW.seq ?_
    refine HW.region ?_
    refine HL.still (Runs.move f3) ?_
    intro u21 e21
    refine HL.still (Runs.move f0) ?_
    intro u22 e22
    refine HL.still (Runs.nilc e22) ?_
    intro u23 e23
    refine HL.still (Runs.fld (o' := 1) Try.underlying56 rfl sz22 (by decide) e23 (by rfl)) ?_
    intro u24 e24
    refine HL.still (Runs.load Try.underlying22 rfl e24 (by rw [cellH_of hsu]; rfl)) ?_
    intro u25 e25
    refine HL.still (Runs.move f4) ?_
    intro u26 e26
    refine HL.still (Runs.ixSl (o' := so + k) Try.underlying22 sz29 e25 e26 (by omega) (by omega) (by omega)) ?_
    intro u27 e27
    refine HL.still (Runs.load Try.underlying29 rfl e27 hcell) ?_
    intro u28 e28
    refine HL.one (HO.call Try.func20 bd20 nm20 (args1 e28) rfl ((rsum_ch u p.2 b1 c1 hby (by omega)).mono ?_))
    rintro _ h29 ⟨rfl, X29⟩
    intro u29 e29
    refine HL.one (HO.dgs1 (shaD p.2) e29 ?_)
    intro h30 w30
    intro u30 e30
    refine HL.one (HO.dapp e21 e30 rfl rfl ((D.ext X29).ext w30.ext) (dgs_block w30.new) (by rw [htl]; simp; omega) (by have := X29.size; have := w30.size; omega) ?_)
    intro a31 c31 h31 D31 G31
    intro u31 e31
    refine HL.still (Runs.assign e31) ?_
    intro u3 e3
    refine HL.nil ?_
    -- region 4
    repeat refine HW.seq ?_
    refine HW.region ?_
    refine HL.still (Runs.move f4) ?_
    intro u19 e19
    refine HL.still (Runs.add e19 rfl (i64w (by omega))) ?_
    intro u20 e20
    refine HL.still (Runs.assign e20) ?_
    intro u4 e4
    refine HL.nil ?_
    have X30 : Ext h h30 := (hX.ext X29 (Nat.le_refl _)).ext w30.ext (Nat.le_refl _)
    refine ⟨W.length - (k + 1), by omega, k + 1, by omega, rfl, e4, f0, G31.belD X30 ((D.ext X29).ext w30.ext) (Nat.le_refl _) (Nat.le_refl _), a31, c31, ?_, ?_⟩
    · rw [htk]; exact e3
    · rw [htk]; exact D31
  · have hkl : k = W.length := by omega
    subst hkl
    rw [List.take_length] at D f3
    -- region 3
    repeat refine HW.seq ?_
    refine HW.region ?_
    refine HL.still (Runs.move f4) ?_
    intro u5 e5
    refine HL.still (Runs.move f0) ?_
    intro u6 e6
    refine HL.still (Runs.nilc e6) ?_
    intro u7 e7
    refine HL.still (Runs.fld (o' := 1) Try.underlying56 rfl sz22 (by decide) e7 (by rfl)) ?_
    intro u8 e8
    refine HL.still (Runs.load Try.underlying22 rfl e8 (by rw [cellH_of hsu]; rfl)) ?_
    intro u9 e9
    refine HL.still (Runs.lenSl rfl Try.underlying22 e9) ?_
    intro u10 e10
    refine HL.still (Runs.lss e5 e10 (t := false) (decide_eq_false (by omega))) ?_
    intro u11 e11
    refine HL.still (Runs.move e11) ?_
    intro u12 e12
    refine HL.skipG rfl rfl e12 ?_
    intro u13 e13
    refine HL.skipG rfl rfl e12 ?_
    intro u14 e14
    refine HL.skipG rfl rfl e12 ?_
    intro u15 e15
    refine HL.skipG rfl rfl e12 ?_
    intro u16 e16
    refine HL.skipG rfl rfl e12 ?_
    intro u17 e17
    refine HL.still (Runs.pick e12 rfl) ?_
    intro u18 e18
    refine HL.nil ?_
    refine HW.no e18 ?_
    refine HW.exitHere ?_
    -- region 6
    repeat refine HW.seq ?_
    refine HW.region ?_
    refine HL.still (Runs.move f3) ?_
    intro u32 e32
    refine HL.still (Runs.assign e32) ?_
    intro u2 e2
    refine HL.nil ?_
    refine HW.ret ?_
    exact RT.one rfl e2 ⟨a, c, rfl, D, hX⟩
set_option maxRecDepth 10000 in
theorem stagedRBO_ch {F : Nat → Prop} (h : Heap) (q y : Nat) (W : Blobs) (hT : Rbt F h q y W true) (hl : W.length ≤ 1000000) : CH Try.prog 45 #[.pointer (some ⟨q, 0, none⟩)] h fun v h' => v = .slice none 0 0 ∧ Ext h h' := by
  obtain ⟨ba, bc, l, hs, hB, hbc, hlW, -⟩ := id hT
  refine CH.of_body Try.func45 rfl rfl rfl ?_
  intro f hf
  have p0 : f 0 = .pointer (some ⟨q, 0, none⟩) := by rw [hf]; exact fr0_at rfl
  -- region 0
  repeat refine HW.seq ?_
  refine HW.region ?_
  refine HL.still (Runs.assign rfl) ?_
  intro u2 e2
  refine HL.nil ?_
  -- region 1
  repeat refine HW.seq ?_
  refine HW.region ?_
  refine HL.still (Runs.assign rfl) ?_
  intro u3 e3
  refine HL.nil ?_
  -- region 2
  repeat refine HW.seq ?_
  refine HW.region ?_
  refine HL.still (Runs.assign rfl) ?_
  intro u4 e4
  refine HL.nil ?_
  repeat refine HW.seq ?_
  refine HW.block ?_
  refine HW.loop (fun m f u => f 4 = I64 0 ∧ f 0 = .pointer (some ⟨q, 0, none⟩) ∧ f 3 = .slice none 0 0 ∧ u = h) 0 ⟨e4, p0, e3, rfl⟩ ?_
  clear e2 e3 e4
  rintro m f u ⟨f4, f0, f3, rfl⟩
  by_cases hlt : 0 < W.length
  · skip
    -- region 3
    repeat refine HW.seq ?_
    refine HW.region ?_
    refine HL.still (Runs.move f4) ?_
    intro u5 e5
    refine HL.still (Runs.move f0) ?_
    intro u6 e6
    refine HL.still (Runs.nilc e6) ?_
    intro u7 e7
    refine HL.still (Runs.fld (o' := 1) Try.underlying56 rfl sz22 (by decide) e7 (by rfl)) ?_
    intro u8 e8
    refine HL.still (Runs.load Try.underlying22 rfl e8 (by rw [cellH_of hs]; rfl)) ?_
    intro u9 e9
    refine HL.still (Runs.lenSl rfl Try.underlying22 e9) ?_
    intro u10 e10
    refine HL.still (Runs.lss e5 e10 (t := true) (decide_eq_true (by omega))) ?_
    intro u11 e11
    refine HL.still (Runs.move e11) ?_
    intro u12 e12
    refine HL.stillG rfl rfl e12 (Runs.move f0) ?_
    intro u13 e13
    refine HL.stillG rfl rfl e12 (Runs.nilc e13) ?_
    intro u14 e14
    refine HL.stillG rfl rfl e12 (Runs.fld (o' := 2) Try.underlying56 rfl sz4 (by decide) e14 (by rfl)) ?_
    intro u15 e15
    refine HL.stillG rfl rfl e12 (Runs.load Try.underlying4 rfl e15 (by rw [cellH_of hs]; rfl)) ?_
    intro u16 e16
    refine HL.stillG rfl rfl e12 (Runs.notb e16 (t := true) (u := false) rfl) ?_
    intro u17 e17
    refine HL.still (Runs.pick e12 e17) ?_
    intro u18 e18
    refine HL.nil ?_
    refine HW.no e18 ?_
    refine HW.exitHere ?_
    -- region 6
    repeat refine HW.seq ?_
    refine HW.region ?_
    refine HL.still (Runs.move f3) ?_
    intro u32 e32
    refine HL.still (Runs.assign e32) ?_
    intro u2 e2
    refine HL.nil ?_
    refine HW.ret ?_
    exact RT.one rfl e2 ⟨rfl, Bel.refl _ _⟩
  · skip
    -- region 3
    repeat refine HW.seq ?_
    refine HW.region ?_
    refine HL.still (Runs.move f4) ?_
    intro u5 e5
    refine HL.still (Runs.move f0) ?_
    intro u6 e6
    refine HL.still (Runs.nilc e6) ?_
    intro u7 e7
    refine HL.still (Runs.fld (o' := 1) Try.underlying56 rfl sz22 (by decide) e7 (by rfl)) ?_
    intro u8 e8
    refine HL.still (Runs.load Try.underlying22 rfl e8 (by rw [cellH_of hs]; rfl)) ?_
    intro u9 e9
    refine HL.still (Runs.lenSl rfl Try.underlying22 e9) ?_
    intro u10 e10
    refine HL.still (Runs.lss e5 e10 (t := false) (decide_eq_false (by omega))) ?_
    intro u11 e11
    refine HL.still (Runs.move e11) ?_
    intro u12 e12
    refine HL.skipG rfl rfl e12 ?_
    intro u13 e13
    refine HL.skipG rfl rfl e12 ?_
    intro u14 e14
    refine HL.skipG rfl rfl e12 ?_
    intro u15 e15
    refine HL.skipG rfl rfl e12 ?_
    intro u16 e16
    refine HL.skipG rfl rfl e12 ?_
    intro u17 e17
    refine HL.still (Runs.pick e12 rfl) ?_
    intro u18 e18
    refine HL.nil ?_
    refine HW.no e18 ?_
    refine HW.exitHere ?_
    -- region 6
    repeat refine HW.seq ?_
    refine HW.region ?_
    refine HL.still (Runs.move f3) ?_
    intro u32 e32
    refine HL.still (Runs.assign e32) ?_
    intro u2 e2
    refine HL.nil ?_
    refine HW.ret ?_
    exact RT.one rfl e2 ⟨rfl, Bel.refl _ _⟩
set_option maxRecDepth 10000 in
theorem commitRBO_ch {F : Nat → Prop} (h : Heap) (q y : Nat) (W : Blobs) (hT : Rbt F h q y W true) : CH Try.prog 40 #[.pointer (some ⟨q, 0, none⟩)] h fun v h' => v = I64 11 ∧ Ext h h' := by
  obtain ⟨ba, bc, l, hs, -⟩ := id hT
  refine CH.of_body Try.func40 rfl rfl rfl ?_
  intro f hf
  have p0 : f 0 = .pointer (some ⟨q, 0, none⟩) := by rw [hf]; exact fr0_at rfl
  -- region 0
  repeat refine HW.seq ?_
  refine HW.region ?_
  refine HL.still (Runs.assign rfl) ?_
  intro u2 e2
  refine HL.nil ?_
  -- region 1
  repeat refine HW.seq ?_
  refine HW.region ?_
  refine HL.still (Runs.move p0) ?_
  intro u4 e4
  refine HL.still (Runs.nilc e4) ?_
  intro u5 e5
  refine HL.still (Runs.fld (o' := 2) Try.underlying56 rfl sz4 (by decide) e5 (by rfl)) ?_
  intro u6 e6
  refine HL.still (Runs.load Try.underlying4 rfl e6 (by rw [cellH_of hs]; rfl)) ?_
  intro u7 e7
  refine HL.nil ?_
  refine HW.yes e7 ?_
  -- region 2
  repeat refine HW.seq ?_
  refine HW.region ?_
  refine HL.still (Runs.assign rfl) ?_
  intro u2 e2
  refine HL.nil ?_
  refine HW.ret ?_
  exact RT.one rfl e2 ⟨rfl, Bel.refl _ _⟩
set_option maxRecDepth 10000 in
set_option maxHeartbeats 1000000 in
theorem commitRB_ch {F FS : Nat → Prop} (h : Heap) (q y : Nat) (room : Int) (W M R : Blobs) (n0 : Nat) (hT : Rbt F h q y W false) (hR : Rst FS h y room R) (hrel : Rel M R) (hd : ∀ j, F j → ¬ FS j) (hr : room ≤ 1073741824) (hG : Good room M n0) (hn0 : n0 + W.length ≤ 1000000) (htM : tot M + tot W ≤ 1000000000) (hW : ∀ p ∈ W, p.1 = shaD p.2 ∧ p.2.length ≤ 100000) (hlW : W.length ≤ 1000000) :
    CH Try.prog 40 #[.pointer (some ⟨q, 0, none⟩)] h fun v h' => v = I64 (commitO room W M).2 ∧ (∃ R', Rel (commitO room W M).1 R' ∧ Rst (fun j => FS j ∨ h.size ≤ j) h' y room R') ∧ ((commitO room W M).2 = 0 ∧ Rbt F h' q y W true ∨ (commitO room W M).2 = 2 ∧ Ext h h') ∧ ExF (fun j => j = q ∨ j = y) h h' := by
  obtain ⟨ba, bc, l, hs, hB, hbc, hlM', hFq, hLb, hLl⟩ := id hT
  obtain ⟨_, _, _, _, _, hy0, _, _, _, _, _, hFy, _⟩ := id hR
  have hyF : ¬ F y := fun r => hd y r hFy
  have hqy : q ≠ y := fun e => hyF (e ▸ hFq)
  have hql := hT.lt
  have hMl := hG.len
  refine CH.of_body Try.func40 rfl rfl rfl ?_
  intro f hf
  have p0 : f 0 = .pointer (some ⟨q, 0, none⟩) := by rw [hf]; exact fr0_at rfl
  -- region 0
  repeat refine HW.seq ?_
  refine HW.region ?_
  refine HL.still (Runs.assign rfl) ?_
  intro u2 e2
  refine HL.nil ?_
  -- region 1
  repeat refine HW.seq ?_
  refine HW.region ?_
  refine HL.still (Runs.move p0) ?_
  intro u4 e4
  refine HL.still (Runs.nilc e4) ?_
  intro u5 e5
  refine HL.still (Runs.fld (o' := 2) Try.underlying56 rfl sz4 (by decide) e5 (by rfl)) ?_
  intro u6 e6
  refine HL.still (Runs.load Try.underlying4 rfl e6 (by rw [cellH_of hs]; rfl)) ?_
  intro u7 e7
  refine HL.nil ?_
  refine HW.no e7 ?_
  refine HW.skip ?_
  have hnl := need_le M W
  by_cases hfull : (needO M W : Int) > room - tot M
  · have hcm : commitO room W M = (M, 2) := by unfold commitO; rw [if_pos hfull]
    rw [hcm]
    -- region 3
    repeat refine HW.seq ?_
    refine HW.grow #[0, 1, 3, 7, 15, 0, 63, 127, 0, 256, 768, 1792, 3840, 7936, 16128, 32767] (fun a b => Ext a b) mixed (by kernel_rfl) (fun _ => Bel.refl _ _) (fun _ _ _ x y => Bel.ext x y (Nat.le_refl _)) ?_
    refine HM.still (fun _ => Bel.refl _ _) (fun f h K => Runs.move ((K.keep (by kernel_rfl)).trans p0)) ?_
    refine HM.still (fun _ => Bel.refl _ _) (fun f h K => Runs.nilc (K.at 0 8 rfl rfl)) ?_
    refine HM.still (fun _ => Bel.refl _ _) (fun f h K => Runs.fld (o' := 0) Try.underlying56 rfl sz27 (by decide) (K.at 1 9 rfl rfl) (by rfl)) ?_
    refine HM.still (fun _ => Bel.refl _ _) (fun f h K => Runs.load Try.underlying27 rfl (K.at 2 10 rfl rfl) (by rw [cellH_of (Bel.keepE K.grown hs)]; rfl)) ?_
    refine HM.one (fun x _ => x = _) (fun _ _ _ _ e => e) (fun f h K => HO.call Try.func27 bd27 nm27 (args1 (K.at 3 11 rfl rfl)) rfl ((usedRX_ch h y room M R hrel (hR.ext K.grown) (by omega) (by omega)).mono fun _ _ q => ⟨q.2, q.1⟩)) ?_
    refine HM.still (fun _ => Bel.refl _ _) (fun f h K => Runs.move ((K.keep (by kernel_rfl)).trans p0)) ?_
    refine HM.one (fun x _ => x = _) (fun _ _ _ _ e => e) (fun f h K => HO.call Try.func58 bd58 nm58 (args1 (K.at 5 13 rfl rfl)) rfl ((bytesR_ch h q y room W M R false (hT.ext K.grown) (hR.ext K.grown) hrel hW (by omega) hlW (by omega)).mono fun _ _ q => ⟨q.2, q.1⟩)) ?_
    refine HM.still (fun _ => Bel.refl _ _) (fun f h K => Runs.add (K.at 4 12 rfl rfl) (K.at 6 14 rfl rfl) (i64w (by omega))) ?_
    refine HM.still (fun _ => Bel.refl _ _) (fun f h K => Runs.move ((K.keep (by kernel_rfl)).trans p0)) ?_
    refine HM.still (fun _ => Bel.refl _ _) (fun f h K => Runs.nilc (K.at 8 16 rfl rfl)) ?_
    refine HM.still (fun _ => Bel.refl _ _) (fun f h K => Runs.fld (o' := 0) Try.underlying56 rfl sz27 (by decide) (K.at 9 17 rfl rfl) (by rfl)) ?_
    refine HM.still (fun _ => Bel.refl _ _) (fun f h K => Runs.load Try.underlying27 rfl (K.at 10 18 rfl rfl) (by rw [cellH_of (Bel.keepE K.grown hs)]; rfl)) ?_
    refine HM.still (fun _ => Bel.refl _ _) (fun f h K => Runs.nilc (K.at 11 19 rfl rfl)) ?_
    refine HM.still (fun _ => Bel.refl _ _) (fun f h K => Runs.fld Try.underlying43 rfl sz3 (by decide) (K.at 12 20 rfl rfl) (by rfl)) ?_
    refine HM.still (fun _ => Bel.refl _ _) (fun f h K => Runs.load Try.underlying3 rfl (K.at 13 21 rfl rfl) (show cellH h y 2 = some (I64 room) by rw [cellH_of (Bel.keepE K.grown hy0)]; rfl)) ?_
    refine HM.still (fun _ => Bel.refl _ _) (fun f h K => Runs.gtr (K.at 7 15 rfl rfl) (K.at 14 22 rfl rfl) (t := true) (decide_eq_true (by omega))) ?_
    intro f' h2 hX V O
    have hX : Ext _ h2 := hX
    have g23 : f' 23 = .bool true := last_at V 15 23 rfl
    refine HW.yes g23 ?_
    -- region 4
    repeat refine HW.seq ?_
    refine HW.region ?_
    refine HL.still (Runs.assign rfl) ?_
    intro u2 e2
    refine HL.nil ?_
    refine HW.ret ?_
    exact RT.one rfl e2 ⟨rfl, ⟨R, hrel, (hR.ext hX).weaken fun _ _ r => .inl r⟩, .inr ⟨rfl, hX⟩, .of_ext hX⟩
  · have hcm : commitO room W M = (putAll room M W, 0) := by unfold commitO; rw [if_neg hfull]
    rw [hcm]
    -- region 3
    repeat refine HW.seq ?_
    refine HW.grow #[0, 1, 3, 7, 15, 0, 63, 127, 0, 256, 768, 1792, 3840, 7936, 16128, 32767] (fun a b => Ext a b) mixed (by kernel_rfl) (fun _ => Bel.refl _ _) (fun _ _ _ x y => Bel.ext x y (Nat.le_refl _)) ?_
    refine HM.still (fun _ => Bel.refl _ _) (fun f h K => Runs.move ((K.keep (by kernel_rfl)).trans p0)) ?_
    refine HM.still (fun _ => Bel.refl _ _) (fun f h K => Runs.nilc (K.at 0 8 rfl rfl)) ?_
    refine HM.still (fun _ => Bel.refl _ _) (fun f h K => Runs.fld (o' := 0) Try.underlying56 rfl sz27 (by decide) (K.at 1 9 rfl rfl) (by rfl)) ?_
    refine HM.still (fun _ => Bel.refl _ _) (fun f h K => Runs.load Try.underlying27 rfl (K.at 2 10 rfl rfl) (by rw [cellH_of (Bel.keepE K.grown hs)]; rfl)) ?_
    refine HM.one (fun x _ => x = _) (fun _ _ _ _ e => e) (fun f h K => HO.call Try.func27 bd27 nm27 (args1 (K.at 3 11 rfl rfl)) rfl ((usedRX_ch h y room M R hrel (hR.ext K.grown) (by omega) (by omega)).mono fun _ _ q => ⟨q.2, q.1⟩)) ?_
    refine HM.still (fun _ => Bel.refl _ _) (fun f h K => Runs.move ((K.keep (by kernel_rfl)).trans p0)) ?_
    refine HM.one (fun x _ => x = _) (fun _ _ _ _ e => e) (fun f h K => HO.call Try.func58 bd58 nm58 (args1 (K.at 5 13 rfl rfl)) rfl ((bytesR_ch h q y room W M R false (hT.ext K.grown) (hR.ext K.grown) hrel hW (by omega) hlW (by omega)).mono fun _ _ q => ⟨q.2, q.1⟩)) ?_
    refine HM.still (fun _ => Bel.refl _ _) (fun f h K => Runs.add (K.at 4 12 rfl rfl) (K.at 6 14 rfl rfl) (i64w (by omega))) ?_
    refine HM.still (fun _ => Bel.refl _ _) (fun f h K => Runs.move ((K.keep (by kernel_rfl)).trans p0)) ?_
    refine HM.still (fun _ => Bel.refl _ _) (fun f h K => Runs.nilc (K.at 8 16 rfl rfl)) ?_
    refine HM.still (fun _ => Bel.refl _ _) (fun f h K => Runs.fld (o' := 0) Try.underlying56 rfl sz27 (by decide) (K.at 9 17 rfl rfl) (by rfl)) ?_
    refine HM.still (fun _ => Bel.refl _ _) (fun f h K => Runs.load Try.underlying27 rfl (K.at 10 18 rfl rfl) (by rw [cellH_of (Bel.keepE K.grown hs)]; rfl)) ?_
    refine HM.still (fun _ => Bel.refl _ _) (fun f h K => Runs.nilc (K.at 11 19 rfl rfl)) ?_
    refine HM.still (fun _ => Bel.refl _ _) (fun f h K => Runs.fld Try.underlying43 rfl sz3 (by decide) (K.at 12 20 rfl rfl) (by rfl)) ?_
    refine HM.still (fun _ => Bel.refl _ _) (fun f h K => Runs.load Try.underlying3 rfl (K.at 13 21 rfl rfl) (show cellH h y 2 = some (I64 room) by rw [cellH_of (Bel.keepE K.grown hy0)]; rfl)) ?_
    refine HM.still (fun _ => Bel.refl _ _) (fun f h K => Runs.gtr (K.at 7 15 rfl rfl) (K.at 14 22 rfl rfl) (t := false) (decide_eq_false (by omega))) ?_
    intro f' h2 hX V O
    have hX : Ext h h2 := hX
    have g23 : f' 23 = .bool false := last_at V 15 23 rfl
    have q0 := (last_keep O (s := 0) (by kernel_rfl)).trans p0
    refine HW.no g23 ?_
    refine HW.skip ?_
    -- region 5
    repeat refine HW.seq ?_
    refine HW.region ?_
    refine HL.still (Runs.assign rfl) ?_
    intro u3 e3
    refine HL.nil ?_
    repeat refine HW.seq ?_
    refine HW.mono (N := fun f u => f 0 = .pointer (some ⟨q, 0, none⟩) ∧ (∃ R', Rel (putAll room M W) R' ∧ Rst (fun j => FS j ∨ h.size ≤ j) u y room R') ∧ ExB y h u) ?_ ?_ (fun _ _ _ q => q) (fun _ _ q => q)
    · refine HW.block ?_
      refine HW.loop (fun m f u => ∃ k : Nat, k ≤ W.length ∧ m = W.length - k ∧ f 3 = I64 k ∧ f 0 = .pointer (some ⟨q, 0, none⟩) ∧ (∃ R', Rel (putAll room M (W.take k)) R' ∧ Rst (fun j => FS j ∨ h.size ≤ j) u y room R') ∧ ExB y h u) W.length
        ⟨0, Nat.zero_le _, rfl, e3, q0, ⟨R, hrel, (hR.ext hX).weaken fun _ _ r => .inl r⟩, ⟨hX.size, fun j hj _ => hX.old j hj⟩⟩ ?_
      clear e3 q0 V O g23
      rintro m f v ⟨k, hk, hm, f3, f0, ⟨R1, hrel1, hR1⟩, hXv⟩
      have hsv := (hXv.old q hql hqy).trans hs
      have hBv : Byts v ba l := hB.keep (fun sb so e => hXv.old sb (hLb sb so e).1 fun r => hyF (r ▸ (hLb sb so e).2.1)) fun x hx sb so e => hXv.old sb (hLl x hx sb so e).1 fun r => hyF (r ▸ (hLl x hx sb so e).2.1)
      by_cases hlt : k < W.length
      · obtain ⟨sb, so, b1, c1, rfl, hcell, hby, hle⟩ := row_at hBv hlM' hlt
        have hmem : W.getD k (zD, []) ∈ W := by rw [List.getD_eq_getElem?_getD, List.getElem?_eq_getElem hlt]; exact List.getElem_mem hlt
        obtain ⟨hp1, hp2⟩ := hW _ hmem
        have hnt := putAll_take room M W hlt
        have hGk := hG.all (W.take k)
        have hGl := hGk.len
        have hkl2 : (W.take k).length = k := by rw [List.length_take]; omega
        have hfits := hGk.fits
        obtain ⟨p, hp⟩ : ∃ p, p = W.getD k (zD, []) := ⟨_, rfl⟩
        rw [← hp] at hcell hby hle hp1 hp2 hnt
        obtain ⟨M', d', e', hpo⟩ : ∃ M' d' e', putO room (putAll room M (W.take k)) p.2 = (M', d', e') := ⟨_, _, _, rfl⟩
        have htk : tot (putAll room M (W.take k)) ≤ 1000000000 := putAll_totle room M W k htM
        -- region 6
        repeat refine HW.seq ?_
        refine HW.region ?_
        refine HL.still (Runs.move f3) ?_
        intro u24 e24
        refine HL.still (Runs.move f0) ?_
        intro u25 e25
        refine HL.still (Runs.nilc e25) ?_
        intro u26 e26
        refine HL.still (Runs.fld (o' := 1) Try.underlying56 rfl sz22 (by decide) e26 (by rfl)) ?_
        intro u27 e27
        refine HL.still (Runs.load Try.underlying22 rfl e27 (by rw [cellH_of hsv]; rfl)) ?_
        intro u28 e28
        refine HL.still (Runs.lenSl rfl Try.underlying22 e28) ?_
        intro u29 e29
        refine HL.still (Runs.lss e24 e29 rfl) ?_
        intro u30 e30
        refine HL.nil ?_
        repeat refine HW.seq ?_
        refine HW.yes ?_ ?_
        exact e30.trans (congrArg Value.bool (decide_eq_true (by omega)))
        refine HW.skip ?_
        repeat refine HW.seq ?_
        refine HW.block ?_
        -- region 8
        repeat refine HW.seq ?_
        refine HW.drawTail 11 mixed (by kernel_rfl) ?_
        refine HS.still (Runs.move f0) ?_
        intro u33 e33
        refine HS.still (Runs.nilc e33) ?_
        intro u34 e34
        refine HS.still (Runs.fld (o' := 0) Try.underlying56 rfl sz27 (by decide) e34 (by rfl)) ?_
        intro u35 e35
        refine HS.still (Runs.load Try.underlying27 rfl e35 (by rw [cellH_of hsv]; rfl)) ?_
        intro u36 e36
        refine HS.still (Runs.move f0) ?_
        intro u37 e37
        refine HS.still (Runs.nilc e37) ?_
        intro u38 e38
        refine HS.still (Runs.fld (o' := 1) Try.underlying56 rfl sz22 (by decide) e38 (by rfl)) ?_
        intro u39 e39
        refine HS.still (Runs.load Try.underlying22 rfl e39 (by rw [cellH_of hsv]; rfl)) ?_
        intro u40 e40
        refine HS.still (Runs.move f3) ?_
        intro u41 e41
        refine HS.still (Runs.ixSl (o' := so + k) Try.underlying22 sz29 e40 e41 (by omega) (by omega) (by omega)) ?_
        intro u42 e42
        refine HS.still (Runs.load Try.underlying29 rfl e42 hcell) ?_
        intro u43 e43
        refine HS.nil ?_
        refine HL.one (HO.call Try.func19 bd19 nm19 (args2 e36 e43) rfl ((putRX_ch v y room _ R1 M' p.2 d' e' b1 c1 hrel1 hpo hR1 hby hle (by omega) htk (by omega)).mono ?_))
        rintro _ h3 ⟨_, ⟨R2, hrel2, hR2, X3⟩⟩
        intro u44 e44
        refine HL.nil ?_
        -- region 7
        repeat refine HW.seq ?_
        refine HW.region ?_
        refine HL.still (Runs.move f3) ?_
        intro u31 e31
        refine HL.still (Runs.add e31 rfl (i64w (by omega))) ?_
        intro u32 e32
        refine HL.still (Runs.assign e32) ?_
        intro u3 e3
        refine HL.nil ?_
        have zv := hXv.size
        refine ⟨W.length - (k + 1), by omega, k + 1, by omega, rfl, e3, f0, ⟨R2, by rw [hnt, hpo]; exact hrel2, hR2.weaken fun j _ r => r.elim id fun r => .inr (by omega)⟩, ⟨Nat.le_trans zv X3.size, fun j hj hne => (X3.old j (by omega) hne).trans (hXv.old j hj hne)⟩⟩
      · have hkl : k = W.length := by omega
        subst hkl
        -- region 6
        repeat refine HW.seq ?_
        refine HW.region ?_
        refine HL.still (Runs.move f3) ?_
        intro u24 e24
        refine HL.still (Runs.move f0) ?_
        intro u25 e25
        refine HL.still (Runs.nilc e25) ?_
        intro u26 e26
        refine HL.still (Runs.fld (o' := 1) Try.underlying56 rfl sz22 (by decide) e26 (by rfl)) ?_
        intro u27 e27
        refine HL.still (Runs.load Try.underlying22 rfl e27 (by rw [cellH_of hsv]; rfl)) ?_
        intro u28 e28
        refine HL.still (Runs.lenSl rfl Try.underlying22 e28) ?_
        intro u29 e29
        refine HL.still (Runs.lss e24 e29 rfl) ?_
        intro u30 e30
        refine HL.nil ?_
        repeat refine HW.seq ?_
        refine HW.no ?_ ?_
        exact e30.trans (congrArg Value.bool (decide_eq_false (by omega)))
        refine HW.exitHere ?_
        rw [List.take_length] at hrel1
        exact ⟨f0, ⟨R1, hrel1, hR1⟩, hXv⟩
    clear e3 q0 V O g23
    rintro f v ⟨f0, ⟨R1, hrel1, hR1⟩, hXv⟩
    have hsv := (hXv.old q hql hqy).trans hs
    have zv := hXv.size
    -- region 9
    repeat refine HW.seq ?_
    refine HW.region ?_
    refine HL.still (Runs.move f0) ?_
    intro u45 e45
    refine HL.still (Runs.nilc e45) ?_
    intro u46 e46
    refine HL.still (Runs.fld (o' := 2) Try.underlying56 rfl sz4 (by decide) e46 (by rfl)) ?_
    intro u47 e47
    refine HL.zero (HO.store (s := 1) sz4 e47 rfl rfl hsv (by simp) rfl ?_)
    intro h9 w9
    refine HL.nil ?_
    -- region 10
    repeat refine HW.seq ?_
    refine HW.region ?_
    refine HL.still (Runs.assign rfl) ?_
    intro u2 e2
    refine HL.nil ?_
    have z9 := w9.size
    refine HW.ret ?_
    have old9 : ∀ j, j < h.size → j ≠ q → j ≠ y → h9[j]? = h[j]? := fun j hj n1 n2 => (w9.old j n1).trans (hXv.old j hj n2)
    refine RT.one rfl e2 ⟨rfl, ⟨R1, hrel1, hR1.keep (by omega) fun j hj r => w9.old j fun e => ?_⟩, .inl ⟨rfl, ba, bc, l, w9.new, ?_, hbc, hlM', hFq, hLb.mono (by omega) fun _ _ r => r, fun x hx => (hLl x hx).mono (by omega) fun _ _ r => r⟩, ⟨by omega, fun j hj n => old9 j hj (fun e => n (.inl e)) fun e => n (.inr e)⟩⟩
    · rcases r with r | r
      · exact hd q hFq (e ▸ r)
      · omega
    · exact hB.keep (fun sb so e => old9 sb (hLb sb so e).1 (hLb sb so e).2.2 fun r => hyF (r ▸ (hLb sb so e).2.1)) fun x hx sb so e => old9 sb (hLl x hx sb so e).1 (hLl x hx sb so e).2.2 fun r => hyF (r ▸ (hLl x hx sb so e).2.1)
end Go.Proofs.Ytklelhfgbjpifaa
/-! Calls: a row of structs; are they few? -/
namespace Go.Proofs.Ytklelhfgbjpifaa
set_option linter.unnecessarySimpa false
set_option linter.unusedSimpArgs false
set_option linter.unusedVariables false
open Go.RowKit
abbrev Cl := Int × Option Addr × Nat × List UInt8
/-- A row of calls. -/
def Cls (h : Heap) (a : Option Addr) (l : List Cl) : Prop := l = [] ∨ ∃ sb so, a = some ⟨sb, so, none⟩ ∧ ∀ r x, l[r]? = some x → cellH h sb (so + r * 2) = some (I64 x.1) ∧ cellH h sb (so + r * 2 + 1) = some (.slice x.2.1 x.2.2.2.length x.2.2.1) ∧ Byt h x.2.1 x.2.2.2 ∧ x.2.2.2.length ≤ x.2.2.1
theorem Cls.ext {h h' : Heap} {a : Option Addr} {l : List Cl} (x : Cls h a l) (k : Ext h h') : Cls h' a l := by
  rcases x with x | ⟨sb, so, h1, h2⟩
  · exact .inl x
  · refine .inr ⟨sb, so, h1, fun r x hx => ?_⟩
    obtain ⟨q1, q2, q3, q4⟩ := h2 r x hx
    exact ⟨by rw [cellH_keep (k.old sb (lt_of_cellH q1))]; exact q1, by rw [cellH_keep (k.old sb (lt_of_cellH q1))]; exact q2, q3.ext k, q4⟩
theorem Cls.at {h : Heap} {a : Option Addr} {l : List Cl} (x : Cls h a l) {r : Nat} (hr : r < l.length) : ∃ sb so, a = some ⟨sb, so, none⟩ ∧ ∃ w b c xs, l[r]? = some (w, b, c, xs) ∧ cellH h sb (so + r * 2) = some (I64 w) ∧ cellH h sb (so + r * 2 + 1) = some (.slice b xs.length c) ∧ Byt h b xs ∧ xs.length ≤ c := by
  rcases x with x | ⟨sb, so, h1, h2⟩
  · subst x; cases hr
  · obtain ⟨y, hy⟩ : ∃ y, l[r]? = some y := ⟨_, List.getElem?_eq_getElem hr⟩
    obtain ⟨q1, q2, q3, q4⟩ := h2 r y hy
    exact ⟨sb, so, h1, y.1, y.2.1, y.2.2.1, y.2.2.2, hy, q1, q2, q3, q4⟩
/-- Their bytes, as rows. -/
def rowsOf (l : List Cl) : List (Option Addr × Nat × List UInt8) := l.map (·.2)
def fewC (l : List Cl) : Bool := decide (l.length ≤ 40) && decide (lens (rowsOf l) ≤ 1500)
theorem fewC_of {l : List Cl} (h : fewC l = true) : l.length ≤ 40 ∧ lens (rowsOf l) ≤ 1500 := by
  unfold fewC at h
  rw [Bool.and_eq_true, decide_eq_true_eq, decide_eq_true_eq] at h
  exact h
theorem rowsOf_at {l : List Cl} {k : Nat} {w : Int} {b : Option Addr} {c : Nat} {xs : List UInt8} (h : l[k]? = some (w, b, c, xs)) : (rowsOf l)[k]? = some (b, c, xs) := by
  unfold rowsOf
  rw [List.getElem?_map, h]
  rfl
theorem sz50 : (Try.prog.info? 50).map (·.size) = some 1 := by kernel_rfl
theorem sz58 : (Try.prog.info? 58).map (·.size) = some 2 := by kernel_rfl
set_option maxRecDepth 10000 in
theorem fewC_ch (h : Heap) (l : List Cl) (a : Option Addr) (n cap : Nat) (hn : n = l.length) (hB : Cls h a l) (hl : l.length ≤ maxLen) (hz : ∀ x ∈ rowsOf l, x.2.2.length ≤ 140737488355328) : CH Try.prog 35 #[.slice a n cap] h fun v h' => v = .bool (fewC l) ∧ h' = h := by
  subst hn
  have hml : maxLen = 9223372036854775807 := rfl
  rw [hml] at hl
  have hrl : (rowsOf l).length = l.length := by unfold rowsOf; rw [List.length_map]
  refine CH.of_body Try.func35 rfl rfl rfl ?_
  intro f hf
  have p0 : f 0 = .slice a l.length cap := by rw [hf]; exact fr0_at rfl
  -- region 0
  repeat refine HW.seq ?_
  refine HW.region ?_
  refine HL.still (Runs.assign rfl) ?_
  intro u2 e2
  refine HL.nil ?_
  -- region 1
  repeat refine HW.seq ?_
  refine HW.region ?_
  refine HL.still (Runs.assign rfl) ?_
  intro u3 e3
  refine HL.nil ?_
  -- region 2
  repeat refine HW.seq ?_
  refine HW.region ?_
  refine HL.still (Runs.assign rfl) ?_
  intro u4 e4
  refine HL.nil ?_
  repeat refine HW.seq ?_
  refine HW.block ?_
  refine HW.loop (fun m f u => ∃ k : Nat, k ≤ l.length ∧ m = l.length - k ∧ f 4 = I64 k ∧ f 0 = .slice a l.length cap ∧ f 3 = I64 (wsum ((rowsOf l).take k)) ∧ u = h) l.length
    ⟨0, Nat.zero_le _, rfl, e4, p0, e3, rfl⟩ ?_
  clear e2 e3 e4
  rintro m f u ⟨k, hk, hm, f4, f0, f3, rfl⟩
  by_cases hlt : k < l.length
  · obtain ⟨sb, so, rfl, w1, b1, c1, xs, hx, _, hcell, _, _⟩ := hB.at hlt
    have htt := wsum_take (rowsOf l) (rowsOf_at hx)
    -- region 3
    repeat refine HW.seq ?_
    refine HW.region ?_
    refine HL.still (Runs.move f4) ?_
    intro u5 e5
    refine HL.still (Runs.move f0) ?_
    intro u6 e6
    refine HL.still (Runs.lenSl rfl Try.underlying50 e6) ?_
    intro u7 e7
    refine HL.still (Runs.lss e5 e7 rfl) ?_
    intro u8 e8
    refine HL.nil ?_
    repeat refine HW.seq ?_
    refine HW.yes ?_ ?_
    exact e8.trans (congrArg Value.bool (decide_eq_true (by omega)))
    refine HW.skip ?_
    repeat refine HW.seq ?_
    refine HW.block ?_
    -- region 5
    repeat refine HW.seq ?_
    refine HW.region ?_
    refine HL.still (Runs.move f3) ?_
    intro u11 e11
    refine HL.still (Runs.move f0) ?_
    intro u12 e12
    refine HL.still (Runs.move f4) ?_
    intro u13 e13
    refine HL.still (Runs.ixSl (o' := so + k * 2) Try.underlying50 sz58 e12 e13 (by omega) (by omega) (by omega)) ?_
    intro u14 e14
    refine HL.still (Runs.fld (o' := so + k * 2 + 1) Try.underlying58 rfl sz29 (by decide) e14 (by first | rfl | omega)) ?_
    intro u15 e15
    refine HL.still (Runs.load Try.underlying29 rfl e15 hcell) ?_
    intro u16 e16
    refine HL.still (Runs.lenSl rfl Try.underlying29 e16) ?_
    intro u17 e17
    refine HL.still (Runs.add e11 e17 rfl) ?_
    intro u18 e18
    refine HL.still (Runs.assign e18) ?_
    intro u3 e3
    refine HL.nil ?_
    -- region 4
    repeat refine HW.seq ?_
    refine HW.region ?_
    refine HL.still (Runs.move f4) ?_
    intro u9 e9
    refine HL.still (Runs.add e9 rfl (i64w (by omega))) ?_
    intro u10 e10
    refine HL.still (Runs.assign e10) ?_
    intro u4 e4
    refine HL.nil ?_
    exact ⟨l.length - (k + 1), by omega, k + 1, by omega, rfl, e4, f0, e3.trans (congrArg (Value.int .i64) htt.symm), rfl⟩
  · have hkl : k = l.length := by omega
    subst hkl
    rw [List.take_of_length_le (by omega)] at f3
    -- region 3
    repeat refine HW.seq ?_
    refine HW.region ?_
    refine HL.still (Runs.move f4) ?_
    intro u5 e5
    refine HL.still (Runs.move f0) ?_
    intro u6 e6
    refine HL.still (Runs.lenSl rfl Try.underlying50 e6) ?_
    intro u7 e7
    refine HL.still (Runs.lss e5 e7 rfl) ?_
    intro u8 e8
    refine HL.nil ?_
    repeat refine HW.seq ?_
    refine HW.no ?_ ?_
    exact e8.trans (congrArg Value.bool (decide_eq_false (by omega)))
    refine HW.exitHere ?_
    -- region 6
    repeat refine HW.seq ?_
    refine HW.region ?_
    refine HL.still (Runs.move f0) ?_
    intro u19 e19
    refine HL.still (Runs.lenSl rfl Try.underlying50 e19) ?_
    intro u20 e20
    refine HL.still (Runs.leq e20 rfl (t := decide (l.length ≤ 40)) (decide_eq_decide.2 (by omega))) ?_
    intro u21 e21
    refine HL.still (Runs.move e21) ?_
    intro u22 e22
    refine HL.anyG rfl rfl e22 (fun hg => Runs.move f3) ?_
    intro u23 e23
    refine HL.anyG rfl rfl e22 (fun hg => Runs.leq (e23.trans (if_pos hg)) rfl (t := decide (wsum (rowsOf l) ≤ 1500)) rfl) ?_
    intro u24 e24
    refine HL.still (Runs.pick e22 (and_pick e24)) ?_
    intro u25 e25
    refine HL.still (Runs.assign e25) ?_
    intro u2 e2
    refine HL.nil ?_
    refine HW.ret ?_
    refine RT.one rfl e2 ⟨?_, rfl⟩
    unfold fewC
    by_cases h40 : l.length ≤ 40
    · rw [wsum_small (rowsOf l) hz (by omega)]
      congr 2
      exact decide_eq_decide.2 (by omega)
    · rw [decide_eq_false h40]
      rfl
section
variable {ρ : Operand → Value} {h : Heap} {d : Option Tmp} {ty : TypeId} {pos : String} {af : Array Edge} {gd : Option (Nat × Bool)} {o0 : Operand}
theorem run_build56 (y : Nat) (w : World) : (Instr.build 56 #[(0, .pointer (some ⟨y, 0, none⟩))]).run Try.prog w = .ok (.agg [.pointer (some ⟨y, 0, none⟩), .slice none 0 0, .bool false].toArray) w := by kernel_rfl
theorem Runs.build56 (y : Nat) (e0 : ρ o0 = .pointer (some ⟨y, 0, none⟩)) : Runs Try.prog ⟨d, .build 56 #[(0, o0)], ty, pos, af, gd⟩ ρ h (.agg [.pointer (some ⟨y, 0, none⟩), .slice none 0 0, .bool false].toArray) :=
  Runs.build (fun w => by
    have q : (#[(0, o0)] : Array (Nat × Operand)).map (fun (i, x) => (i, ρ x)) = #[(0, .pointer (some ⟨y, 0, none⟩))] := by simp [e0]
    rw [q]
    exact run_build56 y w)
end
theorem Rbt.made {own : Nat → Nat} {x : Nat} {h h' : Heap} {y : Nat} (w : Nw h h' (.cells [.pointer (some ⟨y, 0, none⟩), .slice none 0 0, .bool false].toArray 56 (0, 0))) : Rbt (fun j => stamp own h.size x j = x) h' h.size y [] false :=
  ⟨none, 0, [], w.new, .inl rfl, Nat.le_refl _, rfl, stamp_ge (Nat.le_refl _), Lie.none _ _, fun x hx => by cases hx⟩
end Go.Proofs.Ytklelhfgbjpifaa
/-! For the law BatchPlays: the four structures side by side. -/
namespace Go.Proofs.Ytklelhfgbjpifaa
set_option linter.unnecessarySimpa false
set_option linter.unusedSimpArgs false
set_option linter.unusedVariables false
open Go.RowKit
/-- A block of bytes that is owned by nobody: what comes in lies there. -/
def InB (N : Nat) (own : Nat → Nat) (u : Heap) (ia : Option Addr) (n : Nat) : Prop := n = 0 ∨ ∃ (gi : Nat) (cur : List Value), ia = some ⟨gi, 0, none⟩ ∧ N ≤ gi ∧ u[gi]? = some (.cells cur.toArray 5 (0, 0)) ∧ n ≤ cur.length ∧ own gi = 0
theorem InB.st {N n z : Nat} {own : Nat → Nat} {u u' : Heap} {ia : Option Addr} (x : InB N own u ia n) (e : ∀ j, j < u.size → own j = 0 → u'[j]? = u[j]?) : InB N (stamp own u.size z) u' ia n := by
  rcases x with x | ⟨gi, cur, h1, h2, h3, h4, h5⟩
  · exact .inl x
  · exact .inr ⟨gi, cur, h1, h2, (e gi (lt_of_some h3) h5).trans h3, h4, (stamp_lt (lt_of_some h3)).trans h5⟩
theorem InB.ext {N n : Nat} {own : Nat → Nat} {u u' : Heap} {ia : Option Addr} (x : InB N own u ia n) (k : Ext u u') : InB N own u' ia n := by
  rcases x with x | ⟨gi, cur, h1, h2, h3, h4, h5⟩
  · exact .inl x
  · exact .inr ⟨gi, cur, h1, h2, k.keepE h3, h4, h5⟩
theorem InB.of {N base n c : Nat} {own : Nat → Nat} {u : Heap} {ia : Option Addr} {xs : List UInt8} (x : Bs u base 5 ia c xs) (hN : N ≤ base) (ho : ∀ j, base ≤ j → own j = 0) (hn : n = xs.length) : InB N own u ia n := by
  subst hn
  rcases x.blk with q | ⟨g, q, q1, q2⟩
  · refine .inl ?_
    have := x.byt
    rw [q] at this
    rcases this with w | ⟨_, _, w, _⟩
    · rw [w]; rfl
    · cases w
  · subst q
    obtain ⟨cur, w1, w2, _⟩ := x.blkAt
    exact .inr ⟨g, cur, rfl, by omega, w1, by rw [w2]; exact x.2, ho g q1⟩
/-- Blocks that are owned, and those below N, are as they were. -/
structure Tw (N : Nat) (own : Nat → Nat) (h v : Heap) : Prop where
  size : h.size ≤ v.size
  old : ∀ j, j < h.size → (own j ≠ 0 ∨ j < N) → v[j]? = h[j]?
theorem Tw.refl (N : Nat) (own : Nat → Nat) (h : Heap) : Tw N own h h := ⟨Nat.le_refl _, fun _ _ _ => rfl⟩
theorem Tw.wr {N : Nat} {own : Nat → Nat} {h v w : Heap} {g : Nat} {o : Obj} (x : Tw N own h v) (k : Wr v w g o) (h0 : own g = 0) (hN : N ≤ g) : Tw N own h w := ⟨by rw [k.size]; exact x.size, fun j hj q => (k.old j (fun e => by
  subst e
  rcases q with q | q
  · exact q h0
  · omega)).trans (x.old j hj q)⟩
/-- A batch, over or not. -/
@[reducible] def BatM (own : Nat → Nat) (u : Heap) (t s : Nat) (W : Blobs) : Bool → Prop
  | true => BatO (fun j => own j = 2) u t s
  | false => ∃ bm oa, Bat (fun j => own j = 2) u t bm oa s W
/-- The four structures: the store and the document's, the batch and the document's. -/
structure PS (N : Nat) (u : Heap) (own : Nat → Nat) (s b y : Nat) (room : Int) (M R W : Blobs) (t q : Nat) (ov : Bool) (m1 m2 : Nat) : Prop where
  low : ∀ j, j < N → own j = 0
  sto : Sto (fun j => own j = 1) u s b room M
  rst : Rst (fun j => own j = 3) u y room R
  rel : Rel M R
  good : Good room M m1
  msz : tot M ≤ m1 * 1500
  stg : Stg W m2 1500
  rbt : Rbt (fun j => own j = 4) u q y W ov
  bat : BatM own u t s W ov
  few : m1 ≤ 40 ∧ m2 ≤ 40
section
variable {N : Nat} {u v : Heap} {own : Nat → Nat} {s b y : Nat} {room : Int} {M R W : Blobs} {t q : Nat} {ov : Bool} {m1 m2 : Nat}
theorem PS.ext (p : PS N u own s b y room M R W t q ov m1 m2) (k : Ext u v) : PS N v own s b y room M R W t q ov m1 m2 :=
  ⟨p.low, p.sto.ext k, p.rst.ext k, p.rel, p.good, p.msz, p.stg, p.rbt.ext k, by
    have := p.bat
    cases ov with
    | true => exact BatO.ext this k
    | false => obtain ⟨bm, oa, x⟩ := this; exact ⟨bm, oa, x.ext k⟩, p.few⟩
theorem PS.tw (p : PS N u own s b y room M R W t q ov m1 m2) (k : Tw N own u v) : PS N v own s b y room M R W t q ov m1 m2 :=
  ⟨p.low, p.sto.keep k.size fun j hj e => k.old j hj (.inl (by rw [e]; decide)), p.rst.keep k.size fun j hj e => k.old j hj (.inl (by rw [e]; decide)), p.rel, p.good, p.msz, p.stg, p.rbt.keep k.size fun j hj e => k.old j hj (.inl (by rw [e]; decide)), by
    have := p.bat
    cases ov with
    | true => exact BatO.keep this fun j hj (e : own j = 2) => k.old j hj (.inl (by rw [e]; decide))
    | false => obtain ⟨bm, oa, x⟩ := this; exact ⟨bm, oa, x.keep k.size fun j hj e => k.old j hj (.inl (by rw [e]; decide))⟩, p.few⟩
theorem PS.st0 (p : PS N u own s b y room M R W t q ov m1 m2) (k : Ext u v) (hN : N ≤ u.size) : PS N v (stamp own u.size 0) s b y room M R W t q ov m1 m2 :=
  ⟨stamp_low p.low hN, p.sto.st k.size fun j hj _ => k.old j hj, p.rst.st k.size fun j hj _ => k.old j hj, p.rel, p.good, p.msz, p.stg, p.rbt.st k.size fun j hj _ => k.old j hj, by
    have := p.bat
    cases ov with
    | true => exact BatO.st this fun j hj _ => k.old j hj
    | false => obtain ⟨bm, oa, x⟩ := this; exact ⟨bm, oa, x.st k.size fun j hj _ => k.old j hj⟩, p.few⟩
theorem PS.wok (p : PS N u own s b y room M R W t q ov m1 m2) : ∀ r ∈ W, r.1 = shaD r.2 ∧ r.2.length ≤ 100000 := fun r hr => ⟨p.stg.own r hr, Nat.le_trans (p.stg.small r hr) (by decide)⟩
theorem PS.mlen (p : PS N u own s b y room M R W t q ov m1 m2) : M.length ≤ 40 := by have := p.good.len; have := p.few; omega
theorem PS.wlen (p : PS N u own s b y room M R W t q ov m1 m2) : W.length ≤ 40 := by have := p.stg.len; have := p.few; omega
theorem PS.tots (p : PS N u own s b y room M R W t q ov m1 m2) : tot M + tot W ≤ 120000 := by
  have h1 := p.msz
  have h2 := p.stg.tot
  have h3 : m1 * 1500 ≤ 40 * 1500 := Nat.mul_le_mul_right _ p.few.1
  have h4 : m2 * 1500 ≤ 40 * 1500 := Nat.mul_le_mul_right _ p.few.2
  omega
theorem PS.wsm (p : PS N u own s b y room M R W t q ov m1 m2) : ∀ r ∈ W, r.2.length ≤ 140737488355328 := fun r hr => Nat.le_trans (p.stg.small r hr) (by decide)
theorem PS.msm (p : PS N u own s b y room M R W t q ov m1 m2) : ∀ r ∈ M, r.2.length ≤ 140737488355328 := fun r hr => by
  have h1 := mem_tot hr
  have := p.tots
  omega
end
/-- What a Get of either gives; what is staged. -/
def getP (ov : Bool) (W M : Blobs) (x : Dg) : List UInt8 × Bool := if ov = true then ([], false) else getO W M x
def stgP (ov : Bool) (W : Blobs) : List Dg := if ov = true then [] else W.map (·.1)
section
variable {N : Nat} {u : Heap} {own : Nat → Nat} {s b y : Nat} {room : Int} {M R W : Blobs} {t q : Nat} {ov : Bool} {m1 m2 : Nat}
theorem PS.get_small (p : PS N u own s b y room M R W t q ov m1 m2) (x : Dg) : (getP ov W M x).1.length ≤ 140737488355328 := by
  unfold getP
  split
  · exact Nat.zero_le _
  · unfold getO
    cases hw : lookM W x with
    | some v => exact p.wsm _ ((lookM_iff p.stg.nodup x v).1 hw)
    | none =>
      show ((lookM M x).getD []).length ≤ _
      cases hm : lookM M x with
      | some v => exact p.msm _ ((lookM_iff p.good.nodup x v).1 hm)
      | none => exact Nat.zero_le _
theorem PS.stg_len (p : PS N u own s b y room M R W t q ov m1 m2) : (stgP ov W).length ≤ 1000000 := by
  have := p.wlen
  unfold stgP
  split
  · exact Nat.zero_le _
  · rw [List.length_map]; omega
theorem PS.get_ch (p : PS N u own s b y room M R W t q ov m1 m2) (x : Dg) : CH Try.prog 42 #[.pointer (some ⟨t, 0, none⟩), keyV x] u fun v h' => ∃ a c, v = .tuple #[.slice a (getP ov W M x).1.length c, .bool (getP ov W M x).2] ∧ Bs h' u.size 5 a c (getP ov W M x).1 ∧ Ext u h' := by
  have hb := p.bat
  cases ov with
  | true => exact (getBO_ch u t s x hb).mono fun _ _ ⟨q1, q2⟩ => ⟨none, 0, q1, Rs.start _ _ _, q2⟩
  | false =>
    obtain ⟨bm, oa, hb⟩ := hb
    exact getB_ch u t bm oa s b room W M x hb p.sto p.wsm p.msm
theorem PS.getR_ch (p : PS N u own s b y room M R W t q ov m1 m2) (x : Dg) : CH Try.prog 43 #[.pointer (some ⟨q, 0, none⟩), keyV x] u fun v h' => ∃ a c, v = .tuple #[.slice a (getP ov W M x).1.length c, .bool (getP ov W M x).2] ∧ Byt h' a (getP ov W M x).1 ∧ Ext u h' := by
  have hb := p.rbt
  have := p.wlen
  have := p.mlen
  cases ov with
  | true => exact (getRBO_ch u q y W x hb).mono fun _ _ ⟨q1, q2⟩ => ⟨none, 0, q1, .inl rfl, q2⟩
  | false => exact (getRB_ch u q y room W M R x hb p.rst p.rel p.wok (by omega) (by omega)).mono fun _ _ ⟨a, c, q1, q2, _, q4⟩ => ⟨a, c, q1, q2, q4⟩
theorem PS.staged_ch (p : PS N u own s b y room M R W t q ov m1 m2) : CH Try.prog 44 #[.pointer (some ⟨t, 0, none⟩)] u fun v h' => ∃ a c, v = .slice a (stgP ov W).length c ∧ Dgs h' a (stgP ov W) ∧ Ext u h' := by
  have hb := p.bat
  have := p.wlen
  cases ov with
  | true => exact (stagedO_ch u t s hb).mono fun _ _ ⟨a, c, q1, _, q3⟩ => ⟨a, c, q1, .inl rfl, q3⟩
  | false =>
    obtain ⟨bm, oa, hb⟩ := hb
    exact (Go.Proofs.Ytklelhfgbjpifaa.staged_ch u t bm oa s W hb (by omega)).mono fun _ _ ⟨a, c, q1, q2, q3⟩ => ⟨a, c, q1, q2.dgs, q3⟩
theorem PS.stagedR_ch (p : PS N u own s b y room M R W t q ov m1 m2) : CH Try.prog 45 #[.pointer (some ⟨q, 0, none⟩)] u fun v h' => ∃ a c, v = .slice a (stgP ov W).length c ∧ Dgs h' a (stgP ov W) ∧ Ext u h' := by
  have hb := p.rbt
  have := p.wlen
  cases ov with
  | true => exact (stagedRBO_ch u q y W hb (by omega)).mono fun _ _ ⟨q1, q2⟩ => ⟨none, 0, q1, .inl rfl, q2⟩
  | false => exact (stagedRB_ch u q y W hb p.wok (by omega)).mono fun _ _ ⟨a, c, q1, q2, q3⟩ => ⟨a, c, q1, q2.dgs, q3⟩
theorem PS.keys_ch (p : PS N u own s b y room M R W t q ov m1 m2) : CH Try.prog 29 #[.pointer (some ⟨s, 0, none⟩)] u fun v h' => ∃ a c, v = .slice a R.length c ∧ Dgs h' a (R.map (·.1)) ∧ Ext u h' := by
  have := p.mlen
  refine (keysS_ch u s b room M p.sto (by omega)).mono fun _ _ ⟨a, c, ss, q1, q2, q3, q4, q5⟩ => ?_
  have e : ss = R.map (·.1) := rises_unique (keys_rise p.good q3 q4) p.rel.rises (q3.trans (p.rel.perm.map _).symm)
  subst e
  rw [List.length_map] at q1
  exact ⟨a, c, q1, q2.dgs, q5⟩
end
theorem bat_st {own : Nat → Nat} {u v : Heap} {t s x : Nat} {W : Blobs} {ov : Bool} (k : BatM own u t s W ov) (hs : u.size ≤ v.size) (e : ∀ j, j < u.size → own j = 2 → v[j]? = u[j]?) :
    BatM (stamp own u.size x) v t s W ov := by
  cases ov with
  | true => exact BatO.st k e
  | false => obtain ⟨bm, oa, k⟩ := k; exact ⟨bm, oa, k.st hs e⟩
theorem bat_ext {own : Nat → Nat} {u v : Heap} {t s : Nat} {W : Blobs} {ov : Bool} (k : BatM own u t s W ov) (e : Ext u v) :
    BatM own v t s W ov := by
  cases ov with
  | true => exact BatO.ext k e
  | false => obtain ⟨bm, oa, k⟩ := k; exact ⟨bm, oa, k.ext e⟩
/-- The block of a batch, over or not. -/
theorem bat_cell {own : Nat → Nat} {u : Heap} {t s : Nat} {W : Blobs} {ov : Bool} (k : BatM own u t s W ov) : own t = 2 ∧ ∃ mv oa n oc x o, u[t]? = some (.cells (btC mv oa n oc x s o).toArray 84 (0, 0)) := by
  cases ov with
  | true => exact ⟨k.2, _, _, _, _, _, _, k.1⟩
  | false =>
    obtain ⟨bm, oa, E, oc, _, ht, _, _, ⟨_, q, _⟩, _⟩ := k
    exact ⟨q, _, _, _, _, _, _, ht⟩
section
variable {own : Nat → Nat}
theorem putR_own {x : Nat} (h : Heap) (y : Nat) (room : Int) (M R M' : Blobs) (xs : List UInt8) (d : Dg) (e : Int) (a : Option Addr) (cap : Nat) (hrel : Rel M R) (hp : putO room M xs = (M', d, e)) (hR : Rst (fun j => own j = x) h y room R) (hsrc : Byt h a xs) (hcap : xs.length ≤ cap) (hlen : xs.length ≤ 100000) (ht : tot M ≤ 1000000000) (hl : M.length ≤ 1000000) :
    CH Try.prog 19 #[.pointer (some ⟨y, 0, none⟩), .slice a xs.length cap] h fun v h' => v = .tuple #[keyV d, I64 e] ∧ (∃ R', Rel M' R' ∧ Rst (fun j => stamp own h.size x j = x) h' y room R') ∧ ExF (fun j => own j = x) h h' := by
  obtain ⟨_, _, _, _, _, _, _, _, _, _, _, hFy, _⟩ := id hR
  exact (putRX_ch h y room M R M' xs d e a cap hrel hp hR hsrc hcap hlen ht hl).mono fun _ _ ⟨q1, R', q2, q3, q4⟩ => ⟨q1, ⟨R', q2, q3.mine⟩, .of_exb q4 hFy⟩
theorem putRB_own {x z : Nat} (h : Heap) (q y : Nat) (room : Int) (W W' M R : Blobs) (xs : List UInt8) (d : Dg) (e : Int) (a : Option Addr) (cap : Nat) (hp : putBO room W M xs = (W', d, e)) (hT : Rbt (fun j => own j = z) h q y W false) (hR : Rst (fun j => own j = x) h y room R) (hrel : Rel M R) (hsrc : Byt h a xs) (hcap : xs.length ≤ cap) (hlen : xs.length ≤ 100000) (hr : room ≤ 1073741824) (hr0 : 0 ≤ room) (htM : tot M ≤ 1000000000) (hlM : M.length ≤ 1000000) (hW : ∀ p ∈ W, p.1 = shaD p.2 ∧ p.2.length ≤ 100000) (htW : tot W ≤ 1000000000) (hlW : W.length ≤ 1000000) :
    CH Try.prog 38 #[.pointer (some ⟨q, 0, none⟩), .slice a xs.length cap] h fun v h' => v = .tuple #[keyV d, I64 e] ∧ Rbt (fun j => stamp own h.size z j = z) h' q y W' false ∧ ExF (fun j => own j = z) h h' :=
  (putRB_ch h q y room W W' M R xs d e a cap hp hT hR hrel hsrc hcap hlen hr hr0 htM hlM hW htW hlW).mono fun _ _ ⟨q1, q2, q3⟩ => ⟨q1, q2.mine, .of_exb q3 hT.foot⟩
theorem commitRB_own {x z : Nat} (h : Heap) (q y : Nat) (room : Int) (W M R : Blobs) (n0 : Nat) (hzx : z ≠ x) (hT : Rbt (fun j => own j = z) h q y W false) (hR : Rst (fun j => own j = x) h y room R) (hrel : Rel M R) (hr : room ≤ 1073741824) (hG : Good room M n0) (hn0 : n0 + W.length ≤ 1000000) (htM : tot M + tot W ≤ 1000000000) (hW : ∀ p ∈ W, p.1 = shaD p.2 ∧ p.2.length ≤ 100000) (hlW : W.length ≤ 1000000) :
    CH Try.prog 40 #[.pointer (some ⟨q, 0, none⟩)] h fun v h' => v = I64 (commitO room W M).2 ∧ (∃ R', Rel (commitO room W M).1 R' ∧ Rst (fun j => stamp own h.size x j = x) h' y room R') ∧ ((commitO room W M).2 = 0 ∧ Rbt (fun j => stamp own h.size x j = z) h' q y W true ∨ (commitO room W M).2 = 2 ∧ Ext h h') ∧ ExF (fun j => own j = x ∨ own j = z) h h' := by
  obtain ⟨_, _, _, _, _, _, _, _, _, _, _, hFy, _⟩ := id hR
  have hql := hT.lt
  have hqz := hT.foot
  refine (commitRB_ch (F := fun j => own j = z ∧ j < h.size) h q y room W M R n0 (hT.weaken fun j hj r => ⟨r, hj⟩) hR hrel (fun j r1 r2 => hzx (r1.1.symm.trans r2)) hr hG hn0 htM hW hlW).mono fun v h' ⟨q1, ⟨R', q2, q3⟩, q4, q5⟩ => ⟨q1, ⟨R', q2, q3.mine⟩, ?_, ⟨q5.size, fun j hj n => q5.old j hj fun e => ?_⟩⟩
  · rcases q4 with ⟨r1, r2⟩ | r
    · exact .inl ⟨r1, r2.weaken fun j _ r => (stamp_lt r.2).trans r.1⟩
    · exact .inr r
  · rcases e with e | e
    · exact n (.inr (e ▸ hqz))
    · exact n (.inl (e ▸ hFy))
end
end Go.Proofs.Ytklelhfgbjpifaa
/-! The law BatchPlays, walked. -/
namespace Go.Proofs.Ytklelhfgbjpifaa
set_option linter.unnecessarySimpa false
set_option linter.unusedSimpArgs false
set_option linter.unusedVariables false
open Go.RowKit
set_option maxRecDepth 10000 in
set_option maxHeartbeats 8000000 in
theorem lawBPlays_ch (h : Heap) (r : Int) (l : List Cl) (a : Option Addr) (cap : Nat) (hB : Cls h a l) (hl : l.length ≤ maxLen) (hz : ∀ x ∈ rowsOf l, x.2.2.length ≤ 140737488355328) :
    CH Try.prog 9 #[I64 r, .slice a l.length cap] h fun v h' => v = .bool true ∧ Ext h h' := by
  refine CH.of_body Try.func9 rfl rfl rfl ?_
  intro f hf
  have p0 : f 0 = I64 r := by rw [hf]; exact fr0_at rfl
  have p1 : f 1 = .slice a l.length cap := by rw [hf]; exact fr0_at rfl
  -- region 0
  repeat refine HW.seq ?_
  refine HW.region ?_
  refine HL.still (Runs.assign rfl) ?_
  intro u4 e4
  refine HL.nil ?_
  -- region 1
  repeat refine HW.seq ?_
  refine HW.region ?_
  refine HL.one (HO.call Try.func34 bd34 nm34 (args0) rfl ((small4_ch h).mono ?_))
  rintro _ h1 ⟨rfl, X1⟩
  intro u29 e29
  refine HL.still (Runs.assign e29) ?_
  intro u5 e5
  refine HL.nil ?_
  -- region 2
  repeat refine HW.seq ?_
  refine HW.region ?_
  refine HL.still (Runs.move p1) ?_
  intro u30 e30
  refine HL.one (HO.call Try.func35 bd35 nm35 (args1 e30) rfl ((fewC_ch h1 l a l.length cap rfl (hB.ext X1) hl hz).mono ?_))
  rintro _ h2 ⟨rfl, rfl⟩
  intro u31 e31
  refine HL.still (Runs.assign e31) ?_
  intro u6 e6
  refine HL.nil ?_
  -- region 3
  repeat refine HW.seq ?_
  refine HW.region ?_
  refine HL.still (Runs.move p0) ?_
  intro u32 e32
  refine HL.one (HO.call Try.func16 bd16 nm16 (args1 e32) rfl ((newS_ch h2 r).mono ?_))
  rintro _ h3 ⟨rfl, S3, X3⟩
  intro u33 e33
  refine HL.still (Runs.assign e33) ?_
  intro u7 e7
  refine HL.nil ?_
  -- region 4
  repeat refine HW.seq ?_
  refine HW.region ?_
  refine HL.still (Runs.move p0) ?_
  intro u34 e34
  refine HL.one (HO.call Try.func17 bd17 nm17 (args1 e34) rfl ((new_ref_ch h3 r).mono ?_))
  rintro _ h4 ⟨rfl, R4, X4⟩
  intro u35 e35
  refine HL.still (Runs.assign e35) ?_
  intro u8 e8
  refine HL.nil ?_
  have XA : Ext h h4 := (X1.ext X3 (Nat.le_refl _)).ext X4 (Nat.le_refl _)
  have z1 := X1.size
  have z3 := X3.size
  have z4 := X4.size
  have g5 : u5 = .bool true := e5
  obtain ⟨s, hs⟩ : ∃ s, s = h2.size + 1 := ⟨_, rfl⟩
  obtain ⟨b, hb⟩ : ∃ b, b = h2.size := ⟨_, rfl⟩
  obtain ⟨y, hy⟩ : ∃ y, y = h3.size := ⟨_, rfl⟩
  rw [← hb] at S3 hs e7
  rw [← hs] at S3 e7
  rw [← hy] at R4 e8
  obtain ⟨room, hroom⟩ : ∃ room, room = roomO r := ⟨_, rfl⟩
  have hr0 := roomO_0 r
  have hr1 := roomO_top r
  rw [← hroom] at S3 R4 hr0 hr1
  obtain ⟨N, hN⟩ : ∃ N, N = h.size := ⟨_, rfl⟩
  cases hfew : fewC l with
  | false =>
    have g6 : u6 = .bool false := e6.trans (congrArg Value.bool hfew)
    -- region 5
    repeat refine HW.seq ?_
    refine HW.region ?_
    refine HL.still (Runs.move e7) ?_
    intro u36 e36
    refine HL.still (Runs.eqNil Try.underlying25 e36 rfl) ?_
    intro u37 e37
    refine HL.still (Runs.move e37) ?_
    intro u38 e38
    refine HL.stillG rfl rfl e38 (Runs.move g6) ?_
    intro u39 e39
    refine HL.stillG rfl rfl e38 (Runs.notb e39 (t := false) (u := true) rfl) ?_
    intro u40 e40
    refine HL.still (Runs.pick e38 e40) ?_
    intro u41 e41
    refine HL.nil ?_
    refine HW.yes e41 ?_
    -- region 6
    repeat refine HW.seq ?_
    refine HW.region ?_
    refine HL.still (Runs.move g5) ?_
    intro u42 e42
    refine HL.still (Runs.move e42) ?_
    intro u43 e43
    refine HL.stillG rfl rfl e43 (Runs.move e7) ?_
    intro u44 e44
    refine HL.stillG rfl rfl e43 (Runs.neqNil Try.underlying25 e44 rfl) ?_
    intro u45 e45
    refine HL.still (Runs.pick e43 e45) ?_
    intro u46 e46
    refine HL.still (Runs.assign e46) ?_
    intro u4 e4
    refine HL.nil ?_
    refine HW.ret ?_
    exact RT.one rfl e4 ⟨rfl, XA⟩
  | true =>
    obtain ⟨h40, h1500⟩ := fewC_of hfew
    have g6 : u6 = .bool true := e6.trans (congrArg Value.bool hfew)
    -- region 5
    repeat refine HW.seq ?_
    refine HW.region ?_
    refine HL.still (Runs.move e7) ?_
    intro u36 e36
    refine HL.still (Runs.eqNil Try.underlying25 e36 rfl) ?_
    intro u37 e37
    refine HL.still (Runs.move e37) ?_
    intro u38 e38
    refine HL.stillG rfl rfl e38 (Runs.move g6) ?_
    intro u39 e39
    refine HL.stillG rfl rfl e38 (Runs.notb e39 (t := true) (u := false) rfl) ?_
    intro u40 e40
    refine HL.still (Runs.pick e38 e40) ?_
    intro u41 e41
    refine HL.nil ?_
    refine HW.no e41 ?_
    refine HW.skip ?_
    obtain ⟨o1, ho1⟩ : ∃ o1, o1 = stamp (fun _ => 0) N 1 := ⟨_, rfl⟩
    have L1 : ∀ j, j < N → o1 j = 0 := fun j hj => by rw [ho1]; exact stamp_lt hj
    have S3 : Sto (fun j => o1 j = 1) h3 s b room [] := S3.weaken fun _ _ q => by rw [ho1]; exact stamp_ge (by omega)
    have S4 := S3.other (.of_ext X4) (x := 3) (by decide)
    have R4 : Rst (fun j => stamp o1 h3.size 3 j = 3) h4 y room [] := R4.weaken fun _ _ q => stamp_ge (by omega)
    have L4 := stamp_low (x := 3) L1 (by omega : N ≤ h3.size)
    obtain ⟨o4, ho4⟩ : ∃ o4, o4 = stamp o1 h3.size 3 := ⟨_, rfl⟩
    rw [← ho4] at S4 R4 L4
    -- region 7
    repeat refine HW.seq ?_
    refine HW.region ?_
    refine HL.still (Runs.move e7) ?_
    intro u47 e47
    refine HL.one (HO.call Try.func36 bd36 nm36 (args1 e47) rfl ((newB_own (own := o4) 2 h4 s).mono ?_))
    rintro _ h5 ⟨rfl, T5, X5⟩
    intro u48 e48
    refine HL.still (Runs.assign e48) ?_
    intro u9 e9
    refine HL.nil ?_
    have S5 := S4.other (.of_ext X5) (x := 2) (by decide)
    have R5 := R4.other (.of_ext X5) (x := 2) (by decide)
    have L5 := stamp_low (x := 2) L4 (by omega : N ≤ h4.size)
    obtain ⟨o5, ho5⟩ : ∃ o5, o5 = stamp o4 h4.size 2 := ⟨_, rfl⟩
    rw [← ho5] at S5 R5 L5 T5
    have z5 := X5.size
    -- region 8
    repeat refine HW.seq ?_
    refine HW.region ?_
    refine HL.still (Runs.move e8) ?_
    intro u49 e49
    refine HL.still (Runs.build56 y e49) ?_
    intro u50 e50
    refine HL.one (HO.box e50 ?_)
    intro h6 w6
    intro u51 e51
    refine HL.still (Runs.assign e51) ?_
    intro u10 e10
    refine HL.nil ?_
    have Q6 : Rbt (fun j => stamp o5 h5.size 4 j = 4) h6 h5.size y [] false := Rbt.made w6
    have S6 := S5.other (.of_ext w6.ext) (x := 4) (by decide)
    have R6 := R5.other (.of_ext w6.ext) (x := 4) (by decide)
    have T6 := T5.other (.of_ext w6.ext) (x := 4) (by decide)
    have L6 := stamp_low (x := 4) L5 (by omega : N ≤ h5.size)
    have P6 : PS N h6 (stamp o5 h5.size 4) s b y room [] [] [] (h4.size + 1) h5.size false 0 0 :=
      ⟨L6, S6, R6, Rel.nil, Good.nil hr0, Nat.zero_le _, Stg.nil _, Q6, ⟨_, _, T6⟩, ⟨Nat.zero_le _, Nat.zero_le _⟩⟩
    have XA : Ext h h6 := (XA.ext X5 (Nat.le_refl _)).ext w6.ext (Nat.le_refl _)
    -- region 9
    repeat refine HW.seq ?_
    refine HW.region ?_
    refine HL.still (Runs.assign rfl) ?_
    intro u11 e11
    refine HL.nil ?_
    repeat refine HW.seq ?_
    refine HW.mono (N := fun f u => f 5 = .bool true ∧ Ext h u) ?_ ?_ (fun _ _ _ q => q) (fun _ _ q => q)
    · refine HW.block ?_
      refine HW.loop (fun n f u => ∃ k : Nat, k ≤ l.length ∧ n = l.length - k ∧ f 11 = I64 k ∧ f 1 = .slice a l.length cap ∧ f 5 = .bool true ∧ f 7 = .pointer (some ⟨s, 0, none⟩) ∧ f 8 = .pointer (some ⟨y, 0, none⟩) ∧ Ext h u ∧ ∃ (own : Nat → Nat) (M R W : Blobs) (t q : Nat) (ov : Bool) (m1 m2 : Nat), f 9 = .pointer (some ⟨t, 0, none⟩) ∧ f 10 = .pointer (some ⟨q, 0, none⟩) ∧ PS N u own s b y room M R W t q ov m1 m2 ∧ m1 + (bif ov then 0 else m2) ≤ k) l.length
        ⟨0, Nat.zero_le _, rfl, e11, p1, g5, e7, e8, XA, _, [], [], [], _, _, false, 0, 0, e9, e10, P6, Nat.le_refl _⟩ ?_
      clear e4 e5 e6 e7 e8 e9 e10 e11 g5 g6 p0 p1 P6 L6 T6 R6 S6 Q6 XA S3 S4 S5 R4 R5 T5 L1 L4 L5
      rintro n f u ⟨k, hk, hn, f11, f1, f5, f7, f8, hX, own, M, R, W, t, q, ov, m1, m2, f9, f10, P, hm⟩
      by_cases hlt : k < l.length
      · obtain ⟨sb, so, hsa, w, b1, c1, xs, hx, hcw, hcb, hby, hle⟩ := (hB.ext hX).at hlt
        have hdec : l.length - (k + 1) < n := by rw [hn]; omega
        have hxl : xs.length ≤ 1500 := Nat.le_trans (lens_mem (rowsOf_at hx)) h1500
        have hu := hX.size
        subst hsa
        have hrow : ∀ hh : Heap, Ext h hh → cellH hh sb (so + k * 2 + 1) = some (.slice b1 xs.length c1) ∧ cellH hh sb (so + k * 2) = some (I64 w) ∧ Byt hh b1 xs := fun hh X => by
          obtain ⟨sb', so', q, w2, b2, c2, xs2, q2, q3, q4, q5, _⟩ := (hB.ext X).at hlt
          rw [hx] at q2
          cases q
          cases q2
          exact ⟨q4, q3, q5⟩
        -- region 10
        repeat refine HW.seq ?_
        refine HW.region ?_
        refine HL.still (Runs.move f11) ?_
        intro u52 e52
        refine HL.still (Runs.move f1) ?_
        intro u53 e53
        refine HL.still (Runs.lenSl rfl Try.underlying50 e53) ?_
        intro u54 e54
        refine HL.still (Runs.lss e52 e54 rfl) ?_
        intro u55 e55
        refine HL.nil ?_
        repeat refine HW.seq ?_
        refine HW.yes ?_ ?_
        exact e55.trans (congrArg Value.bool (decide_eq_true (by omega)))
        refine HW.skip ?_
        repeat refine HW.seq ?_
        refine HW.block ?_
        -- region 12
        repeat refine HW.seq ?_
        refine HW.region ?_
        refine HL.still (Runs.move f9) ?_
        intro u58 e58
        refine HL.still (Runs.eqNil Try.underlying52 e58 rfl) ?_
        intro u59 e59
        refine HL.nil ?_
        refine HW.no e59 ?_
        refine HW.skip ?_
        -- region 14
        repeat refine HW.seq ?_
        refine HW.region ?_
        refine HL.one (HO.bytes0 ?_)
        intro ha wa
        intro u60 e60
        refine HL.still (Runs.move f1) ?_
        intro u61 e61
        refine HL.still (Runs.move f11) ?_
        intro u62 e62
        refine HL.still (Runs.ixSl (o' := so + k * 2) Try.underlying50 sz58 e61 e62 (by omega) (by omega) (by omega)) ?_
        intro u63 e63
        refine HL.still (Runs.fld (o' := so + k * 2 + 1) Try.underlying58 rfl sz29 (by decide) e63 (by first | rfl | omega)) ?_
        intro u64 e64
        refine HL.still (Runs.load Try.underlying29 rfl e64 (hrow ha (hX.ext wa.ext (Nat.le_refl _))).1) ?_
        intro u65 e65
        refine HL.one (HO.app Try.underlying29 in5 rfl e60 e65 rfl rfl (Bs.lit (xs := []) wa (Nat.le_refl _) (Nat.zero_le _)) (hrow ha (hX.ext wa.ext (Nat.le_refl _))).2.2 (by simp; omega) (by rw [wa.size]; omega) ?_)
        intro ia ic hi Bi Gi
        intro u66 e66
        refine HL.still (Runs.assign e66) ?_
        intro u12 e12
        refine HL.nil ?_
        have Bi : Bs hi u.size 5 ia ic xs := Bi
        have Ei : Ext u hi := Gi.bel wa.ext (Bs.lit (xs := []) wa (Nat.le_refl _) (Nat.zero_le _)) (Nat.le_refl _) (Nat.le_refl _)
        have g12 : u12 = .slice ia xs.length ic := e12
        -- region 15
        repeat refine HW.seq ?_
        refine HW.region ?_
        refine HL.still (Runs.move g12) ?_
        intro u67 e67
        refine HL.one (HO.call Try.func20 bd20 nm20 (args1 e67) rfl ((rsum_ch hi xs ia ic Bi.byt (by omega)).mono ?_))
        rintro _ hj ⟨rfl, Xj⟩
        intro u68 e68
        refine HL.one (HO.alloc zr31 ?_)
        intro hk' wk
        intro u13 e13
        refine HL.zero (HO.storeAll sz31 e13 e68 (one_map B8 (fun _ => rfl) _) wk.new (by rw [List.length_map, SHA_len]) rfl ?_)
        intro hl' wl
        refine HL.nil ?_
        have El : Ext u hl' := (Ei.ext Xj (Nat.le_refl _)).ext (wk.ext.wr wl (Nat.le_refl _)) (Nat.le_refl _)
        have Xl : Ext hj hl' := wk.ext.wr wl (Nat.le_refl _)
        have hXl := hX.ext El (Nat.le_refl _)
        have zj : u.size ≤ hj.size := Nat.le_trans Ei.size Xj.size
        have P1 := P.st0 El (by omega)
        have In1 : InB N (stamp own u.size 0) hl' ia xs.length := InB.of ((Bi.ext Xj).ext Xl) (by omega) (fun j hj => stamp_ge hj) rfl
        obtain ⟨kd, hkd⟩ : ∃ kd, kd = hj.size := ⟨_, rfl⟩
        have kd1 : hl'[kd]? = some (.cells (encD (shaD xs)).toArray 31 (0, 0)) := by rw [hkd]; exact wl.new
        have ok1 : stamp own u.size 0 kd = 0 := stamp_ge (by omega)
        have by1 : Byt hl' ia xs := (Bi.ext Xj).ext Xl |>.byt
        have hxc : xs.length ≤ ic := Bi.2
        have g13 : u13 = .pointer (some ⟨kd, 0, none⟩) := by rw [hkd]; exact e13
        obtain ⟨o1, ho1⟩ : ∃ o1, o1 = stamp own u.size 0 := ⟨_, rfl⟩
        rw [← ho1] at P1 In1 ok1
        -- region 16
        repeat refine HW.seq ?_
        refine HW.region ?_
        refine HL.still (Runs.assign rfl) ?_
        intro u14 e14
        refine HL.nil ?_
        -- region 17
        repeat refine HW.seq ?_
        refine HW.region ?_
        refine HL.still (Runs.move f1) ?_
        intro u69 e69
        refine HL.still (Runs.move f11) ?_
        intro u70 e70
        refine HL.still (Runs.ixSl (o' := so + k * 2) Try.underlying50 sz58 e69 e70 (by omega) (by omega) (by omega)) ?_
        intro u71 e71
        refine HL.still (Runs.fld (o' := so + k * 2) Try.underlying58 rfl sz3 (by decide) e71 (by first | rfl | omega)) ?_
        intro u72 e72
        refine HL.still (Runs.load Try.underlying3 rfl e72 (hrow hl' hXl).2.1) ?_
        intro u73 e73
        refine HL.still (Runs.rem e73 rfl (by decide) rfl) ?_
        intro u74 e74
        refine HL.nil ?_
        clear e12 e13 e59 hcw hcb hby P
        have g14 : u14 = .bool true := e14
        clear e14
        obtain ⟨c, hc⟩ : ∃ c, c = w.tmod 6 := ⟨_, rfl⟩
        have g74 : u74 = I64 c := by rw [hc]; exact e74
        clear e74
        repeat refine HW.seq ?_
        refine HW.mono (N := fun f v => f 1 = .slice (some ⟨sb, so, none⟩) l.length cap ∧ f 5 = .bool true ∧ f 7 = .pointer (some ⟨s, 0, none⟩) ∧ f 8 = .pointer (some ⟨y, 0, none⟩) ∧ f 11 = I64 k ∧ f 12 = .slice ia xs.length ic ∧ f 13 = .pointer (some ⟨kd, 0, none⟩) ∧ f 14 = .bool true ∧ Ext h v ∧ ∃ (own : Nat → Nat) (M R W : Blobs) (t q : Nat) (ov : Bool) (m1 m2 : Nat), f 9 = .pointer (some ⟨t, 0, none⟩) ∧ f 10 = .pointer (some ⟨q, 0, none⟩) ∧ PS N v own s b y room M R W t q ov m1 m2 ∧ m1 + (bif ov then 0 else m2) ≤ k + 1 ∧ InB N own v ia xs.length ∧ v[kd]? = some (.cells (encD (shaD xs)).toArray 31 (0, 0))) ?_ ?_ (fun _ _ _ q => q) (fun _ _ q => q)
        · refine HW.block ?_
          by_cases c0 : c = 0
          · skip
            -- region 18
            repeat refine HW.seq ?_
            refine HW.region ?_
            refine HL.still (Runs.eql g74 rfl (t := true) (by simp [c0])) ?_
            intro u76 e76
            refine HL.still (Runs.assign e76) ?_
            intro u75 e75
            refine HL.nil ?_
            refine HW.yes e75 ?_
            clear e75 g74
            cases ov with
            | true =>
              -- region 19
              repeat refine HW.seq ?_
              refine HW.region ?_
              refine HL.still (Runs.move f9) ?_
              intro u78 e78
              refine HL.still (Runs.move g12) ?_
              intro u79 e79
              refine HL.one (HO.call Try.func37 bd37 nm37 (args2 e78 e79) rfl ((putBOv_ch hl' t s ia xs.length ic P1.bat).mono ?_))
              rintro _ hm' ⟨rfl, Xm⟩
              intro u80 e80
              refine HL.still (Runs.move e80) ?_
              intro u77 e77
              refine HL.still (Runs.extr e77 rfl) ?_
              intro u81 e81
              refine HL.still (Runs.extr e77 rfl) ?_
              intro u82 e82
              refine HL.one (HO.alloc zr31 ?_)
              intro hn wn
              intro u15 e15
              refine HL.zero (HO.storeAll sz31 e15 e81 (encD_one zD) wn.new (encD_len _) (by simp) ?_)
              intro ho wo
              refine HL.still (Runs.assign e82) ?_
              intro u16 e16
              refine HL.nil ?_
              have Y1 : Ext hl' ho := Xm.ext (wn.ext.wr wo (Nat.le_refl _)) (Nat.le_refl _)
              have ka : ho[hm'.size]? = some (.cells (encD zD).toArray 31 (0, 0)) := wo.new
              have g15 : u15 = .pointer (some ⟨hm'.size, 0, none⟩) := e15
              have g16 : u16 = I64 11 := e16
              -- region 20
              repeat refine HW.seq ?_
              refine HW.region ?_
              refine HL.still (Runs.move f10) ?_
              intro u84 e84
              refine HL.still (Runs.move f1) ?_
              intro u85 e85
              refine HL.still (Runs.move f11) ?_
              intro u86 e86
              refine HL.still (Runs.ixSl (o' := so + k * 2) Try.underlying50 sz58 e85 e86 (by omega) (by omega) (by omega)) ?_
              intro u87 e87
              refine HL.still (Runs.fld (o' := so + k * 2 + 1) Try.underlying58 rfl sz29 (by decide) e87 (by first | rfl | omega)) ?_
              intro u88 e88
              refine HL.still (Runs.load Try.underlying29 rfl e88 (hrow ho (hXl.ext Y1 (Nat.le_refl _))).1) ?_
              intro u89 e89
              refine HL.one (HO.call Try.func38 bd38 nm38 (args2 e84 e89) rfl ((putRBO_ch ho q y W b1 xs.length c1 (P1.rbt.ext Y1)).mono ?_))
              rintro _ hp ⟨rfl, Xp⟩
              intro u90 e90
              refine HL.still (Runs.move e90) ?_
              intro u83 e83
              refine HL.still (Runs.extr e83 rfl) ?_
              intro u91 e91
              refine HL.still (Runs.extr e83 rfl) ?_
              intro u92 e92
              refine HL.one (HO.alloc zr31 ?_)
              intro hq' wq
              intro u17 e17
              refine HL.zero (HO.storeAll sz31 e17 e91 (encD_one zD) wq.new (encD_len _) (by simp) ?_)
              intro hr' wr
              refine HL.still (Runs.assign e92) ?_
              intro u18 e18
              refine HL.nil ?_
              have Y2 : Ext ho hr' := Xp.ext (wq.ext.wr wr (Nat.le_refl _)) (Nat.le_refl _)
              have kb : hr'[hp.size]? = some (.cells (encD zD).toArray 31 (0, 0)) := wr.new
              have g17 : u17 = .pointer (some ⟨hp.size, 0, none⟩) := e17
              have g18 : u18 = I64 11 := e18
              -- region 21
              repeat refine HW.seq ?_
              refine HW.region ?_
              refine HL.still (Runs.loadAgg Try.underlying31 rfl sz31 g15 (encD_len zD) (load_blk (Y2.keepE ka))) ?_
              intro u93 e93
              refine HL.still (Runs.loadAgg Try.underlying31 rfl sz31 g17 (encD_len zD) (load_blk kb)) ?_
              intro u94 e94
              refine HL.still (Runs.eqBytes Try.underlying31 Try.underlying5 sz5 eg31 e93 e94 (t := true) zD.2 zD.2 (by simp)) ?_
              intro u95 e95
              refine HL.still (Runs.move e95) ?_
              intro u96 e96
              refine HL.stillG rfl rfl e96 (Runs.move g16) ?_
              intro u97 e97
              refine HL.stillG rfl rfl e96 (Runs.move g18) ?_
              intro u98 e98
              refine HL.stillG rfl rfl e96 (Runs.eql e97 e98 (t := true) (by simp)) ?_
              intro u99 e99
              refine HL.still (Runs.pick e96 e99) ?_
              intro u100 e100
              refine HL.still (Runs.assign e100) ?_
              intro u14 e14
              refine HL.nil ?_
              have Y := Y1.ext Y2 (Nat.le_refl _)
              exact ⟨f1, f5, f7, f8, f11, g12, g13, e14, hXl.ext Y (Nat.le_refl _), o1, M, R, W, t, q, true, m1, m2, f9, f10, P1.ext Y, Nat.le_succ_of_le hm, In1.ext Y, Y.keepE kd1⟩
            | false =>
              have hm : m1 + m2 ≤ k := hm
              obtain ⟨bm, oa, T1⟩ := P1.bat
              have hts := P1.tots
              have hwl := P1.wlen
              have hml := P1.mlen
              obtain ⟨W', d, e, hp⟩ : ∃ W' d e, putBO room W M xs = (W', d, e) := ⟨_, _, _, rfl⟩
              -- region 19
              repeat refine HW.seq ?_
              refine HW.region ?_
              refine HL.still (Runs.move f9) ?_
              intro u78 e78
              refine HL.still (Runs.move g12) ?_
              intro u79 e79
              refine HL.one (HO.call Try.func37 bd37 nm37 (args2 e78 e79) rfl ((putB_own (own := o1) (x := 1) (y := 2) hl' t bm oa s b room W W' M xs d e ia ic hp T1 P1.sto by1 hxc (by omega) hr1 hr0 P1.good.fits (by omega) (by omega)).mono ?_))
              rintro _ hm' ⟨rfl, ⟨oa', T2⟩, E2⟩
              intro u80 e80
              refine HL.still (Runs.move e80) ?_
              intro u77 e77
              refine HL.still (Runs.extr e77 rfl) ?_
              intro u81 e81
              refine HL.still (Runs.extr e77 rfl) ?_
              intro u82 e82
              refine HL.one (HO.alloc zr31 ?_)
              intro hn wn
              intro u15 e15
              refine HL.zero (HO.storeAll sz31 e15 e81 (encD_one d) wn.new (encD_len _) (by simp) ?_)
              intro ho wo
              refine HL.still (Runs.assign e82) ?_
              intro u16 e16
              refine HL.nil ?_
              have Y1 : Ext hm' ho := wn.ext.wr wo (Nat.le_refl _)
              have X2 := E2.only P1.low (by decide) hN.symm hXl
              have z2 := X2.size
              have zl := hXl.size
              have S2 := (P1.sto.other E2 (by decide)).other (.of_ext Y1) (x := 0) (by decide)
              have R2 := (P1.rst.other E2 (by decide)).other (.of_ext Y1) (x := 0) (by decide)
              have B2 := (P1.rbt.st (x := 2) E2.size (E2.kp (by decide))).st (x := 0) Y1.size (fun j hj _ => Y1.old j hj)
              have T2 := T2.other (.of_ext Y1) (x := 0) (by decide)
              obtain ⟨kd2, ok2⟩ := obj_other kd1 ok1 E2 (by decide)
              obtain ⟨kd2, ok2⟩ := obj_st (x := 0) kd2 ok2 Y1.size (fun j hj _ => Y1.old j hj)
              have In2 := (In1.st (z := 2) (E2.kp (by decide))).st (z := 0) (fun j hj _ => Y1.old j hj)
              have L2 := stamp_low (x := 0) (stamp_low (x := 2) P1.low (by omega : N ≤ hl'.size)) (by omega : N ≤ hm'.size)
              have ka : ho[hm'.size]? = some (.cells (encD d).toArray 31 (0, 0)) := wo.new
              have oka : stamp (stamp o1 hl'.size 2) hm'.size 0 hm'.size = 0 := stamp_ge (Nat.le_refl _)
              obtain ⟨o2, ho2⟩ : ∃ o2, o2 = stamp (stamp o1 hl'.size 2) hm'.size 0 := ⟨_, rfl⟩
              rw [← ho2] at S2 R2 B2 T2 ok2 In2 L2 oka
              have X2 := X2.ext Y1 (Nat.le_refl _)
              have g15 : u15 = .pointer (some ⟨hm'.size, 0, none⟩) := e15
              have g16 : u16 = I64 e := e16
              -- region 20
              repeat refine HW.seq ?_
              refine HW.region ?_
              refine HL.still (Runs.move f10) ?_
              intro u84 e84
              refine HL.still (Runs.move f1) ?_
              intro u85 e85
              refine HL.still (Runs.move f11) ?_
              intro u86 e86
              refine HL.still (Runs.ixSl (o' := so + k * 2) Try.underlying50 sz58 e85 e86 (by omega) (by omega) (by omega)) ?_
              intro u87 e87
              refine HL.still (Runs.fld (o' := so + k * 2 + 1) Try.underlying58 rfl sz29 (by decide) e87 (by first | rfl | omega)) ?_
              intro u88 e88
              refine HL.still (Runs.load Try.underlying29 rfl e88 (hrow ho X2).1) ?_
              intro u89 e89
              refine HL.one (HO.call Try.func38 bd38 nm38 (args2 e84 e89) rfl ((putRB_own (own := o2) (x := 3) (z := 4) ho q y room W W' M R xs d e b1 c1 hp B2 R2 P1.rel (hrow ho X2).2.2 hle (by omega) hr1 hr0 (by omega) (by omega) P1.wok (by omega) (by omega)).mono ?_))
              rintro _ hp' ⟨rfl, B3, E3⟩
              intro u90 e90
              refine HL.still (Runs.move e90) ?_
              intro u83 e83
              refine HL.still (Runs.extr e83 rfl) ?_
              intro u91 e91
              refine HL.still (Runs.extr e83 rfl) ?_
              intro u92 e92
              refine HL.one (HO.alloc zr31 ?_)
              intro hq' wq
              intro u17 e17
              refine HL.zero (HO.storeAll sz31 e17 e91 (encD_one d) wq.new (encD_len _) (by simp) ?_)
              intro hr' wr
              refine HL.still (Runs.assign e92) ?_
              intro u18 e18
              refine HL.nil ?_
              have Y3 : Ext hp' hr' := wq.ext.wr wr (Nat.le_refl _)
              have X3 := E3.only L2 (by decide) hN.symm X2
              have S3 := S2.other E3 (by decide)
              have R3 := R2.other E3 (by decide)
              have T3 := T2.other E3 (by decide)
              obtain ⟨kd3, _⟩ := obj_other kd2 ok2 E3 (by decide)
              obtain ⟨ka3, _⟩ := obj_other ka oka E3 (by decide)
              have In3 := In2.st (z := 4) (E3.kp (by decide))
              have z2' := X2.size
              have L3 := stamp_low (x := 4) L2 (by omega : N ≤ ho.size)
              have kb : hr'[hp'.size]? = some (.cells (encD d).toArray 31 (0, 0)) := wr.new
              have g17 : u17 = .pointer (some ⟨hp'.size, 0, none⟩) := e17
              have g18 : u18 = I64 e := e18
              -- region 21
              repeat refine HW.seq ?_
              refine HW.region ?_
              refine HL.still (Runs.loadAgg Try.underlying31 rfl sz31 g15 (encD_len d) (load_blk (Y3.keepE ka3))) ?_
              intro u93 e93
              refine HL.still (Runs.loadAgg Try.underlying31 rfl sz31 g17 (encD_len d) (load_blk kb)) ?_
              intro u94 e94
              refine HL.still (Runs.eqBytes Try.underlying31 Try.underlying5 sz5 eg31 e93 e94 (t := true) d.2 d.2 (by simp)) ?_
              intro u95 e95
              refine HL.still (Runs.move e95) ?_
              intro u96 e96
              refine HL.stillG rfl rfl e96 (Runs.move g16) ?_
              intro u97 e97
              refine HL.stillG rfl rfl e96 (Runs.move g18) ?_
              intro u98 e98
              refine HL.stillG rfl rfl e96 (Runs.eql e97 e98 (t := true) (by simp)) ?_
              intro u99 e99
              refine HL.still (Runs.pick e96 e99) ?_
              intro u100 e100
              refine HL.still (Runs.assign e100) ?_
              intro u14 e14
              refine HL.nil ?_
              exact ⟨f1, f5, f7, f8, f11, g12, g13, e14, X3.ext Y3 (Nat.le_refl _), _, M, R, W', t, q, false, m1, m2 + 1, f9, f10, ⟨L3, S3.ext Y3, R3.ext Y3, P1.rel, P1.good, P1.msz, P1.stg.put hxl hp, B3.ext Y3, ⟨bm, oa', T3.ext Y3⟩, ⟨P1.few.1, by omega⟩⟩, (by show m1 + (m2 + 1) ≤ k + 1; omega), In3.ext Y3, Y3.keepE kd3⟩
          · skip
            -- region 18
            repeat refine HW.seq ?_
            refine HW.region ?_
            refine HL.still (Runs.eql g74 rfl (t := false) (by simp [c0])) ?_
            intro u76 e76
            refine HL.still (Runs.assign e76) ?_
            intro u75 e75
            refine HL.nil ?_
            refine HW.no e75 ?_
            by_cases c2 : c = 2
            · skip
              -- region 22
              repeat refine HW.seq ?_
              refine HW.region ?_
              refine HL.still (Runs.eql g74 rfl (t := true) (by simp [c2])) ?_
              intro u102 e102
              refine HL.still (Runs.assign e102) ?_
              intro u101 e101
              refine HL.nil ?_
              refine HW.yes e101 ?_
              clear e75 e101 g74
              cases ov with
              | true =>
                -- region 23
                repeat refine HW.seq ?_
                refine HW.region ?_
                refine HL.still (Runs.move f9) ?_
                intro u103 e103
                refine HL.one (HO.call Try.func39 bd39 nm39 (args1 e103) rfl ((commitO_ch hl' t s P1.bat).mono ?_))
                rintro _ hm' ⟨rfl, Xm⟩
                intro u104 e104
                refine HL.still (Runs.move f10) ?_
                intro u105 e105
                refine HL.one (HO.call Try.func40 bd40 nm40 (args1 e105) rfl ((commitRBO_ch hm' q y W (P1.rbt.ext Xm)).mono ?_))
                rintro _ hn' ⟨rfl, Xn⟩
                intro u106 e106
                refine HL.still (Runs.eql e104 e106 (t := true) rfl) ?_
                intro u107 e107
                refine HL.still (Runs.assign e107) ?_
                intro u14 e14
                refine HL.nil ?_
                have Y := Xm.ext Xn (Nat.le_refl _)
                exact ⟨f1, f5, f7, f8, f11, g12, g13, e14, hXl.ext Y (Nat.le_refl _), o1, M, R, W, t, q, true, m1, m2, f9, f10, P1.ext Y, Nat.le_succ_of_le hm, In1.ext Y, Y.keepE kd1⟩
              | false =>
                have hm : m1 + m2 ≤ k := hm
                obtain ⟨bm, oa, T1⟩ := P1.bat
                have hts := P1.tots
                have hwl := P1.wlen
                have hml := P1.mlen
                have hsl := P1.stg.len
                have hfw := P1.few
                -- region 23
                repeat refine HW.seq ?_
                refine HW.region ?_
                refine HL.still (Runs.move f9) ?_
                intro u103 e103
                refine HL.one (HO.call Try.func39 bd39 nm39 (args1 e103) rfl ((commit_own (own := o1) (x := 1) (y := 2) hl' t bm oa s b room W M (by decide) T1 P1.sto hr1 hr0 P1.good.fits (by omega) (by omega) (fun p hp => (P1.wok p hp).2)).mono ?_))
                rintro _ hm' ⟨rfl, S2, T2, E2⟩
                intro u104 e104
                refine HL.still (Runs.move f10) ?_
                intro u105 e105
                refine HL.one (HO.call Try.func40 bd40 nm40 (args1 e105) rfl ((commitRB_own (own := stamp o1 hl'.size 1) (x := 3) (z := 4) hm' q y room W M R m1 (by decide) (P1.rbt.st (x := 1) E2.size (E2.kp2 (by decide) (by decide))) (P1.rst.st (x := 1) E2.size (E2.kp2 (by decide) (by decide))) P1.rel hr1 P1.good (by omega) (by omega) P1.wok (by omega)).mono ?_))
                rintro _ hn' ⟨rfl, ⟨R', hrel', R3⟩, B3, E3⟩
                intro u106 e106
                refine HL.still (Runs.eql e104 e106 (t := true) (by simp)) ?_
                intro u107 e107
                refine HL.still (Runs.assign e107) ?_
                intro u14 e14
                refine HL.nil ?_
                have X2 := only_st P1.low hN.symm hXl E2.size (E2.kp2 (by decide) (by decide))
                have z2 := X2.size
                have zl := hXl.size
                have L2 := stamp_low (x := 1) P1.low (by omega : N ≤ hl'.size)
                have X3 := only_st L2 hN.symm X2 E3.size (E3.kp2 (by decide) (by decide))
                have L3 := stamp_low (x := 3) L2 (by omega : N ≤ hm'.size)
                obtain ⟨kd2, ok2⟩ := obj_st (x := 1) kd1 ok1 E2.size (E2.kp2 (by decide) (by decide))
                obtain ⟨kd3, _⟩ := obj_st (x := 3) kd2 ok2 E3.size (E3.kp2 (by decide) (by decide))
                have In3 := (In1.st (z := 1) (E2.kp2 (by decide) (by decide))).st (z := 3) (E3.kp2 (by decide) (by decide))
                have S3 := S2.st (x := 3) E3.size (E3.kp2 (by decide) (by decide))
                have B2 := P1.rbt.st (x := 1) E2.size (E2.kp2 (by decide) (by decide))
                by_cases hful : (needO M W : Int) > room - tot M
                · have hcm : commitO room W M = (M, 2) := by unfold commitO; rw [if_pos hful]
                  rw [hcm] at S3 T2 B3 hrel'
                  have T2 : Bat (fun j => stamp o1 hl'.size 1 j = 2) hm' t bm oa s W := by
                    rcases T2 with ⟨r, _⟩ | ⟨_, r, _⟩
                    · cases r
                    · exact r
                  have B3 : Ext hm' hn' := by
                    rcases B3 with ⟨r, _⟩ | ⟨_, r⟩
                    · cases r
                    · exact r
                  exact ⟨f1, f5, f7, f8, f11, g12, g13, e14, X3, _, M, R', W, t, q, false, m1, m2, f9, f10, ⟨L3, S3, R3, hrel', P1.good, P1.msz, P1.stg, B2.st (x := 3) E3.size (fun j hj _ => B3.old j hj), ⟨bm, oa, T2.st (x := 3) E3.size (E3.kp2 (by decide) (by decide))⟩, P1.few⟩, (by show m1 + m2 ≤ k + 1; omega), In3, kd3⟩
                · have hcm : commitO room W M = (putAll room M W, 0) := by unfold commitO; rw [if_neg hful]
                  rw [hcm] at S3 T2 B3 hrel'
                  have T2 : BatO (fun j => stamp o1 hl'.size 1 j = 2) hm' t s := by
                    rcases T2 with ⟨_, r⟩ | ⟨r, _⟩
                    · exact r
                    · cases r
                  have B3 : Rbt (fun j => stamp (stamp o1 hl'.size 1) hm'.size 3 j = 4) hn' q y W true := by
                    rcases B3 with ⟨_, r⟩ | ⟨r, _⟩
                    · exact r
                    · cases r
                  have hmsz : tot (putAll room M W) ≤ (m1 + m2) * 1500 := by
                    have h1 := putAll_tot_le room W M
                    have h2 := P1.msz
                    have h3 := P1.stg.tot
                    rw [Nat.add_mul]
                    omega
                  exact ⟨f1, f5, f7, f8, f11, g12, g13, e14, X3, _, putAll room M W, R', W, t, q, true, m1 + m2, m2, f9, f10, ⟨L3, S3, R3, hrel', (P1.good.all W).more (by omega), hmsz, P1.stg, B3, T2.st (x := 3) (E3.kp2 (by decide) (by decide)), ⟨by omega, P1.few.2⟩⟩, (by show m1 + m2 + 0 ≤ k + 1; omega), In3, kd3⟩
            · skip
              -- region 22
              repeat refine HW.seq ?_
              refine HW.region ?_
              refine HL.still (Runs.eql g74 rfl (t := false) (by simp [c2])) ?_
              intro u102 e102
              refine HL.still (Runs.assign e102) ?_
              intro u101 e101
              refine HL.nil ?_
              refine HW.no e101 ?_
              by_cases c3 : c = 3
              · skip
                -- region 24
                repeat refine HW.seq ?_
                refine HW.region ?_
                refine HL.still (Runs.eql g74 rfl (t := true) (by simp [c3])) ?_
                intro u109 e109
                refine HL.still (Runs.assign e109) ?_
                intro u108 e108
                refine HL.nil ?_
                refine HW.yes e108 ?_
                clear e75 e101 e108 g74
                obtain ⟨hot, mv, oa, nn, oc, xx, oo, htc⟩ := bat_cell P1.bat
                -- region 25
                repeat refine HW.seq ?_
                refine HW.region ?_
                refine HL.still (Runs.move f9) ?_
                intro u110 e110
                refine HL.one (HO.call Try.func41 bd41 nm41 (args1 e110) rfl ((discard_ch hl' t s mv oa nn oc xx oo htc).mono ?_))
                rintro _ hm' ⟨_, w2⟩
                intro u111 e111
                refine HL.nil ?_
                have E2 : ExF (fun j => o1 j = 2) hl' hm' := ⟨by rw [w2.size]; exact Nat.le_refl _, fun j _ hn => w2.old j fun e => hn (e ▸ hot)⟩
                have zl := hXl.size
                have S2 := P1.sto.other E2 (by decide)
                have R2 := P1.rst.other E2 (by decide)
                have B2 := P1.rbt.st (x := 2) E2.size (E2.kp (by decide))
                have T2 : BatO (fun j => stamp o1 hl'.size 2 j = 2) hm' t s := ⟨w2.new, (stamp_lt (lt_of_some htc)).trans hot⟩
                obtain ⟨kd2, ok2⟩ := obj_other kd1 ok1 E2 (by decide)
                have In2 := In1.st (z := 2) (E2.kp (by decide))
                have L2 := stamp_low (x := 2) P1.low (by omega : N ≤ hl'.size)
                have X2 := E2.only P1.low (by decide) hN.symm hXl
                have z2 := X2.size
                obtain ⟨o2, ho2⟩ : ∃ o2, o2 = stamp o1 hl'.size 2 := ⟨_, rfl⟩
                rw [← ho2] at S2 R2 B2 T2 ok2 In2 L2
                obtain ⟨ba, bc, l2, hq2, hB2, hbc2, hlW2, hFq2, hLb2, hLl2⟩ := B2
                -- region 26
                repeat refine HW.seq ?_
                refine HW.region ?_
                refine HL.still (Runs.move f10) ?_
                intro u112 e112
                refine HL.still (Runs.nilc e112) ?_
                intro u113 e113
                refine HL.still (Runs.fld (o' := 2) Try.underlying56 rfl sz4 (by decide) e113 (by rfl)) ?_
                intro u114 e114
                refine HL.zero (HO.store (s := 1) sz4 e114 rfl rfl hq2 (by simp) rfl ?_)
                intro hn' w3
                refine HL.nil ?_
                have E3 : ExF (fun j => o2 j = 4) hm' hn' := ⟨by rw [w3.size]; exact Nat.le_refl _, fun j _ hn => w3.old j fun e => hn (e ▸ hFq2)⟩
                have B3 : Rbt (fun j => stamp o2 hm'.size 4 j = 4) hn' q y W true := by
                  refine Rbt.weaken (F := fun j => o2 j = 4 ∧ j < hm'.size) ⟨ba, bc, l2, w3.new, hB2.keep (fun sb so e => w3.old sb (hLb2 sb so e).2.2) fun x hx sb so e => w3.old sb (hLl2 x hx sb so e).2.2, hbc2, hlW2, ⟨hFq2, lt_of_some hq2⟩, fun sb so e => ?_, fun x hx sb so e => ?_⟩ fun j _ r => (stamp_lt r.2).trans r.1
                  · obtain ⟨r1, r2, r3⟩ := hLb2 sb so e
                    exact ⟨by rw [w3.size]; exact r1, ⟨r2, r1⟩, r3⟩
                  · obtain ⟨r1, r2, r3⟩ := hLl2 x hx sb so e
                    exact ⟨by rw [w3.size]; exact r1, ⟨r2, r1⟩, r3⟩
                obtain ⟨kd3, _⟩ := obj_other kd2 ok2 E3 (by decide)
                have hm0 : m1 ≤ k := Nat.le_trans (Nat.le_add_right _ _) hm
                exact ⟨f1, f5, f7, f8, f11, g12, g13, g14, E3.only L2 (by decide) hN.symm X2, _, M, R, W, t, q, true, m1, m2, f9, f10, ⟨stamp_low (x := 4) L2 (by omega : N ≤ hm'.size), S2.other E3 (by decide), R2.other E3 (by decide), P1.rel, P1.good, P1.msz, P1.stg, B3, T2.st (x := 4) (E3.kp (by decide)), P1.few⟩, (by show m1 + 0 ≤ k + 1; omega), In2.st (z := 4) (E3.kp (by decide)), kd3⟩
              · skip
                -- region 24
                repeat refine HW.seq ?_
                refine HW.region ?_
                refine HL.still (Runs.eql g74 rfl (t := false) (by simp [c3])) ?_
                intro u109 e109
                refine HL.still (Runs.assign e109) ?_
                intro u108 e108
                refine HL.nil ?_
                refine HW.no e108 ?_
                by_cases c4 : c = 4
                · skip
                  -- region 27
                  repeat refine HW.seq ?_
                  refine HW.region ?_
                  refine HL.still (Runs.eql g74 rfl (t := true) (by simp [c4])) ?_
                  intro u116 e116
                  refine HL.still (Runs.assign e116) ?_
                  intro u115 e115
                  refine HL.nil ?_
                  refine HW.yes e115 ?_
                  clear e75 e101 e108 e115 g74
                  have hts := P1.tots
                  have hml := P1.mlen
                  have hm0 : m1 ≤ k := Nat.le_trans (Nat.le_add_right _ _) hm
                  obtain ⟨M', d, e, hp⟩ : ∃ M' d e, putO room M xs = (M', d, e) := ⟨_, _, _, rfl⟩
                  -- region 28
                  repeat refine HW.seq ?_
                  refine HW.region ?_
                  refine HL.still (Runs.move f7) ?_
                  intro u118 e118
                  refine HL.still (Runs.move g12) ?_
                  intro u119 e119
                  refine HL.one (HO.call Try.func18 bd18 nm18 (args2 e118 e119) rfl ((put_own (own := o1) (x := 1) hl' s b room M M' xs d e ia ic hp P1.sto by1 hxc (by omega) hr1 hr0 P1.good.fits).mono ?_))
                  rintro _ hm' ⟨rfl, S2, E2⟩
                  intro u120 e120
                  refine HL.still (Runs.move e120) ?_
                  intro u117 e117
                  refine HL.still (Runs.extr e117 rfl) ?_
                  intro u121 e121
                  refine HL.still (Runs.extr e117 rfl) ?_
                  intro u122 e122
                  refine HL.one (HO.alloc zr31 ?_)
                  intro hn wn
                  intro u19 e19
                  refine HL.zero (HO.storeAll sz31 e19 e121 (encD_one d) wn.new (encD_len _) (by simp) ?_)
                  intro ho wo
                  refine HL.still (Runs.assign e122) ?_
                  intro u20 e20
                  refine HL.nil ?_
                  have Y1 : Ext hm' ho := wn.ext.wr wo (Nat.le_refl _)
                  have X2 := E2.only P1.low (by decide) hN.symm hXl
                  have z2 := X2.size
                  have zl := hXl.size
                  have S2 := S2.other (.of_ext Y1) (x := 0) (by decide)
                  have R2 := (P1.rst.other E2 (by decide)).other (.of_ext Y1) (x := 0) (by decide)
                  have B2 := (P1.rbt.st (x := 1) E2.size (E2.kp (by decide))).st (x := 0) Y1.size (fun j hj _ => Y1.old j hj)
                  have T2 := bat_st (x := 0) (bat_st (x := 1) P1.bat E2.size (E2.kp (by decide))) Y1.size (fun j hj _ => Y1.old j hj)
                  obtain ⟨kd2, ok2⟩ := obj_other kd1 ok1 E2 (by decide)
                  obtain ⟨kd2, ok2⟩ := obj_st (x := 0) kd2 ok2 Y1.size (fun j hj _ => Y1.old j hj)
                  have In2 := (In1.st (z := 1) (E2.kp (by decide))).st (z := 0) (fun j hj _ => Y1.old j hj)
                  have L2 := stamp_low (x := 0) (stamp_low (x := 1) P1.low (by omega : N ≤ hl'.size)) (by omega : N ≤ hm'.size)
                  have ka : ho[hm'.size]? = some (.cells (encD d).toArray 31 (0, 0)) := wo.new
                  have oka : stamp (stamp o1 hl'.size 1) hm'.size 0 hm'.size = 0 := stamp_ge (Nat.le_refl _)
                  obtain ⟨o2, ho2⟩ : ∃ o2, o2 = stamp (stamp o1 hl'.size 1) hm'.size 0 := ⟨_, rfl⟩
                  rw [← ho2] at S2 R2 B2 T2 ok2 In2 L2 oka
                  have X2 := X2.ext Y1 (Nat.le_refl _)
                  have g19 : u19 = .pointer (some ⟨hm'.size, 0, none⟩) := e19
                  have g20 : u20 = I64 e := e20
                  -- region 29
                  repeat refine HW.seq ?_
                  refine HW.region ?_
                  refine HL.still (Runs.move f8) ?_
                  intro u124 e124
                  refine HL.still (Runs.move f1) ?_
                  intro u125 e125
                  refine HL.still (Runs.move f11) ?_
                  intro u126 e126
                  refine HL.still (Runs.ixSl (o' := so + k * 2) Try.underlying50 sz58 e125 e126 (by omega) (by omega) (by omega)) ?_
                  intro u127 e127
                  refine HL.still (Runs.fld (o' := so + k * 2 + 1) Try.underlying58 rfl sz29 (by decide) e127 (by first | rfl | omega)) ?_
                  intro u128 e128
                  refine HL.still (Runs.load Try.underlying29 rfl e128 (hrow ho X2).1) ?_
                  intro u129 e129
                  refine HL.one (HO.call Try.func19 bd19 nm19 (args2 e124 e129) rfl ((putR_own (own := o2) (x := 3) ho y room M R M' xs d e b1 c1 P1.rel hp R2 (hrow ho X2).2.2 hle (by omega) (by omega) (by omega)).mono ?_))
                  rintro _ hp' ⟨rfl, ⟨R', hrel', R3⟩, E3⟩
                  intro u130 e130
                  refine HL.still (Runs.move e130) ?_
                  intro u123 e123
                  refine HL.still (Runs.extr e123 rfl) ?_
                  intro u131 e131
                  refine HL.still (Runs.extr e123 rfl) ?_
                  intro u132 e132
                  refine HL.one (HO.alloc zr31 ?_)
                  intro hq' wq
                  intro u21 e21
                  refine HL.zero (HO.storeAll sz31 e21 e131 (encD_one d) wq.new (encD_len _) (by simp) ?_)
                  intro hr' wr
                  refine HL.still (Runs.assign e132) ?_
                  intro u22 e22
                  refine HL.nil ?_
                  have Y3 : Ext hp' hr' := wq.ext.wr wr (Nat.le_refl _)
                  have X3 := E3.only L2 (by decide) hN.symm X2
                  have S3 := S2.other E3 (by decide)
                  have B3 := B2.st (x := 3) E3.size (E3.kp (by decide))
                  have T3 := bat_st (x := 3) T2 E3.size (E3.kp (by decide))
                  obtain ⟨kd3, _⟩ := obj_other kd2 ok2 E3 (by decide)
                  obtain ⟨ka3, _⟩ := obj_other ka oka E3 (by decide)
                  have In3 := In2.st (z := 3) (E3.kp (by decide))
                  have z2' := X2.size
                  have L3 := stamp_low (x := 3) L2 (by omega : N ≤ ho.size)
                  have kb : hr'[hp'.size]? = some (.cells (encD d).toArray 31 (0, 0)) := wr.new
                  have g21 : u21 = .pointer (some ⟨hp'.size, 0, none⟩) := e21
                  have g22 : u22 = I64 e := e22
                  -- region 30
                  repeat refine HW.seq ?_
                  refine HW.region ?_
                  refine HL.still (Runs.loadAgg Try.underlying31 rfl sz31 g19 (encD_len d) (load_blk (Y3.keepE ka3))) ?_
                  intro u133 e133
                  refine HL.still (Runs.loadAgg Try.underlying31 rfl sz31 g21 (encD_len d) (load_blk kb)) ?_
                  intro u134 e134
                  refine HL.still (Runs.eqBytes Try.underlying31 Try.underlying5 sz5 eg31 e133 e134 (t := true) d.2 d.2 (by simp)) ?_
                  intro u135 e135
                  refine HL.still (Runs.move e135) ?_
                  intro u136 e136
                  refine HL.stillG rfl rfl e136 (Runs.move g20) ?_
                  intro u137 e137
                  refine HL.stillG rfl rfl e136 (Runs.move g22) ?_
                  intro u138 e138
                  refine HL.stillG rfl rfl e136 (Runs.eql e137 e138 (t := true) (by simp)) ?_
                  intro u139 e139
                  refine HL.still (Runs.pick e136 e139) ?_
                  intro u140 e140
                  refine HL.still (Runs.assign e140) ?_
                  intro u14 e14
                  refine HL.nil ?_
                  have GG' : Good room M' (m1 + 1) := by have := P1.good.put xs; rw [hp] at this; exact this
                  have hmsz : tot M' ≤ (m1 + 1) * 1500 := by
                    have h1 := put_tot_le room M xs
                    rw [hp] at h1
                    have h1 : tot M' ≤ tot M + xs.length := h1
                    have h2 := P1.msz
                    rw [Nat.add_mul]
                    omega
                  exact ⟨f1, f5, f7, f8, f11, g12, g13, e14, X3.ext Y3 (Nat.le_refl _), _, M', R', W, t, q, ov, m1 + 1, m2, f9, f10, ⟨L3, S3.ext Y3, R3.ext Y3, hrel', GG', hmsz, P1.stg, B3.ext Y3, bat_ext T3 Y3, ⟨by omega, P1.few.2⟩⟩, (by omega), In3.ext Y3, Y3.keepE kd3⟩
                · skip
                  -- region 27
                  repeat refine HW.seq ?_
                  refine HW.region ?_
                  refine HL.still (Runs.eql g74 rfl (t := false) (by simp [c4])) ?_
                  intro u116 e116
                  refine HL.still (Runs.assign e116) ?_
                  intro u115 e115
                  refine HL.nil ?_
                  refine HW.no e115 ?_
                  by_cases c5 : c = 5
                  · skip
                    -- region 31
                    repeat refine HW.seq ?_
                    refine HW.region ?_
                    refine HL.still (Runs.eql g74 rfl (t := true) (by simp [c5])) ?_
                    intro u142 e142
                    refine HL.still (Runs.assign e142) ?_
                    intro u141 e141
                    refine HL.nil ?_
                    refine HW.yes e141 ?_
                    clear e75 e101 e108 e115 e141 g74
                    have hm0 : m1 ≤ k := Nat.le_trans (Nat.le_add_right _ _) hm
                    -- region 32
                    repeat refine HW.seq ?_
                    refine HW.region ?_
                    refine HL.still (Runs.move f7) ?_
                    intro u143 e143
                    refine HL.one (HO.call Try.func36 bd36 nm36 (args1 e143) rfl ((newB_own (own := o1) 2 hl' s).mono ?_))
                    rintro _ hm' ⟨rfl, T2, X2⟩
                    intro u144 e144
                    refine HL.still (Runs.assign e144) ?_
                    intro u9 e9
                    refine HL.nil ?_
                    have zl := hXl.size
                    have zm := X2.size
                    have S2 := P1.sto.other (.of_ext X2) (x := 2) (by decide)
                    have R2 := P1.rst.other (.of_ext X2) (x := 2) (by decide)
                    have In2 := In1.st (z := 2) (fun j hj _ => X2.old j hj)
                    have L2 := stamp_low (x := 2) P1.low (by omega : N ≤ hl'.size)
                    -- region 33
                    repeat refine HW.seq ?_
                    refine HW.region ?_
                    refine HL.still (Runs.move f8) ?_
                    intro u145 e145
                    refine HL.still (Runs.build56 y e145) ?_
                    intro u146 e146
                    refine HL.one (HO.box e146 ?_)
                    intro hn' w3
                    intro u147 e147
                    refine HL.still (Runs.assign e147) ?_
                    intro u10 e10
                    refine HL.nil ?_
                    have Q3 : Rbt (fun j => stamp (stamp o1 hl'.size 2) hm'.size 4 j = 4) hn' hm'.size y [] false := Rbt.made w3
                    have Y3 := w3.ext
                    -- region 34
                    repeat refine HW.seq ?_
                    refine HW.region ?_
                    refine HL.still (Runs.move e9) ?_
                    intro u148 e148
                    refine HL.still (Runs.eqNil Try.underlying52 e148 rfl) ?_
                    intro u149 e149
                    refine HL.nil ?_
                    refine HW.no e149 ?_
                    refine HW.skip ?_
                    exact ⟨f1, f5, f7, f8, f11, g12, g13, g14, (hXl.ext X2 (Nat.le_refl _)).ext Y3 (Nat.le_refl _), _, M, R, [], _, _, false, m1, 0, e9, e10, ⟨stamp_low (x := 4) L2 (by omega : N ≤ hm'.size), S2.other (.of_ext Y3) (x := 4) (by decide), R2.other (.of_ext Y3) (x := 4) (by decide), P1.rel, P1.good, P1.msz, Stg.nil _, Q3, ⟨_, _, T2.other (.of_ext Y3) (x := 4) (by decide)⟩, ⟨P1.few.1, Nat.zero_le _⟩⟩, (by show m1 + 0 ≤ k + 1; omega), In2.st (z := 4) (fun j hj _ => Y3.old j hj), Y3.keepE (X2.keepE kd1)⟩
                  · skip
                    -- region 31
                    repeat refine HW.seq ?_
                    refine HW.region ?_
                    refine HL.still (Runs.eql g74 rfl (t := false) (by simp [c5])) ?_
                    intro u142 e142
                    refine HL.still (Runs.assign e142) ?_
                    intro u141 e141
                    refine HL.nil ?_
                    refine HW.no e141 ?_
                    refine HW.skip ?_
                    exact ⟨f1, f5, f7, f8, f11, g12, g13, g14, hXl, o1, M, R, W, t, q, ov, m1, m2, f9, f10, P1, by omega, In1, kd1⟩
        · clear P1 In1 kd1 ok1 by1 g12 g13 g14 g74 f9 f10 El Xl hXl Ei Bi Gi Xj ho1 hm
          rintro f v ⟨f1, f5, f7, f8, f11, f12, f13, f14, hXv, own, M, R, W, t, q, ov, m1, m2, f9, f10, P, hm, In, kd1⟩
          have zv := hXv.size
          -- what came in is written over
          -- region 36
          repeat refine HW.seq ?_
          refine HW.region ?_
          refine HL.still (Runs.assign rfl) ?_
          intro u23 e23
          refine HL.nil ?_
          repeat refine HW.seq ?_
          refine HW.mono (N := fun f v' => f 1 = .slice (some ⟨sb, so, none⟩) l.length cap ∧ f 5 = .bool true ∧ f 7 = .pointer (some ⟨s, 0, none⟩) ∧ f 8 = .pointer (some ⟨y, 0, none⟩) ∧ f 9 = .pointer (some ⟨t, 0, none⟩) ∧ f 10 = .pointer (some ⟨q, 0, none⟩) ∧ f 11 = I64 k ∧ f 13 = .pointer (some ⟨kd, 0, none⟩) ∧ f 14 = .bool true ∧ Tw N own v v' ∧ v'[kd]? = some (.cells (encD (shaD xs)).toArray 31 (0, 0))) ?_ ?_ (fun _ _ _ q => q) (fun _ _ q => q)
          · refine HW.block ?_
            refine HW.loop (fun n f v' => ∃ j : Nat, j ≤ xs.length ∧ n = xs.length - j ∧ f 23 = I64 j ∧ f 12 = .slice ia xs.length ic ∧ (f 1 = .slice (some ⟨sb, so, none⟩) l.length cap ∧ f 5 = .bool true ∧ f 7 = .pointer (some ⟨s, 0, none⟩) ∧ f 8 = .pointer (some ⟨y, 0, none⟩) ∧ f 9 = .pointer (some ⟨t, 0, none⟩) ∧ f 10 = .pointer (some ⟨q, 0, none⟩) ∧ f 11 = I64 k ∧ f 13 = .pointer (some ⟨kd, 0, none⟩) ∧ f 14 = .bool true) ∧ Tw N own v v' ∧ InB N own v' ia xs.length ∧ v'[kd]? = some (.cells (encD (shaD xs)).toArray 31 (0, 0))) xs.length
              ⟨0, Nat.zero_le _, rfl, e23, f12, ⟨f1, f5, f7, f8, f9, f10, f11, f13, f14⟩, Tw.refl _ _ _, In, kd1⟩ ?_
            clear e23 f1 f5 f7 f8 f9 f10 f11 f12 f13 f14
            rintro n f v' ⟨j, hj', hn, f23, f12, hfs, hTw, hIn, hkd'⟩
            by_cases hjl : j < xs.length
            · obtain ⟨gi, cur, rfl, hgN, hcv, hcl, hg0⟩ : ∃ (gi : Nat) (cur : List Value), ia = some ⟨gi, 0, none⟩ ∧ N ≤ gi ∧ v'[gi]? = some (.cells cur.toArray 5 (0, 0)) ∧ xs.length ≤ cur.length ∧ own gi = 0 := by
                rcases hIn with r | r
                · omega
                · exact r
              have hne : kd ≠ gi := fun e => by
                rw [e, hcv] at hkd'
                cases hkd'
              -- region 37
              repeat refine HW.seq ?_
              refine HW.region ?_
              refine HL.still (Runs.move f23) ?_
              intro u150 e150
              refine HL.still (Runs.move f12) ?_
              intro u151 e151
              refine HL.still (Runs.lenSl rfl Try.underlying29 e151) ?_
              intro u152 e152
              refine HL.still (Runs.lss e150 e152 rfl) ?_
              intro u153 e153
              refine HL.nil ?_
              repeat refine HW.seq ?_
              refine HW.yes ?_ ?_
              exact e153.trans (congrArg Value.bool (decide_eq_true (by omega)))
              refine HW.skip ?_
              repeat refine HW.seq ?_
              refine HW.block ?_
              -- region 39
              repeat refine HW.seq ?_
              refine HW.region ?_
              refine HL.still (Runs.move f12) ?_
              intro u156 e156
              refine HL.still (Runs.move f23) ?_
              intro u157 e157
              refine HL.still (Runs.ixSl (o' := 0 + j) Try.underlying29 sz5 e156 e157 (by omega) (by omega) (by omega)) ?_
              intro u158 e158
              refine HL.zero (HO.store (s := 1) sz5 e158 rfl rfl hcv (by omega) rfl ?_)
              intro hw ww
              refine HL.nil ?_
              -- region 38
              repeat refine HW.seq ?_
              refine HW.region ?_
              refine HL.still (Runs.move f23) ?_
              intro u154 e154
              refine HL.still (Runs.add e154 rfl (i64w (by omega))) ?_
              intro u155 e155
              refine HL.still (Runs.assign e155) ?_
              intro u23 e23
              refine HL.nil ?_
              exact ⟨xs.length - (j + 1), by omega, j + 1, by omega, rfl, e23, f12, hfs, hTw.wr ww hg0 hgN, .inr ⟨gi, _, rfl, hgN, ww.new, by simp; omega, hg0⟩, (ww.old kd hne).trans hkd'⟩
            · skip
              -- region 37
              repeat refine HW.seq ?_
              refine HW.region ?_
              refine HL.still (Runs.move f23) ?_
              intro u150 e150
              refine HL.still (Runs.move f12) ?_
              intro u151 e151
              refine HL.still (Runs.lenSl rfl Try.underlying29 e151) ?_
              intro u152 e152
              refine HL.still (Runs.lss e150 e152 rfl) ?_
              intro u153 e153
              refine HL.nil ?_
              repeat refine HW.seq ?_
              refine HW.no ?_ ?_
              exact e153.trans (congrArg Value.bool (decide_eq_false (by omega)))
              refine HW.exitHere ?_
              obtain ⟨t1, t2, t3, t4, t5, t6, t7, t8, t9⟩ := hfs
              exact ⟨t1, t2, t3, t4, t5, t6, t7, t8, t9, hTw, hkd'⟩
          clear e23 f1 f5 f7 f8 f9 f10 f11 f12 f13 f14
          rintro f v2 ⟨f1, f5, f7, f8, f9, f10, f11, f13, f14, hTw, kd2⟩
          have P2 := P.tw hTw
          have hX2 : Ext h v2 := ⟨Nat.le_trans hXv.size hTw.size, fun j hj => (hTw.old j (by omega) (.inr (by omega))).trans (hXv.old j hj)⟩
          have z2 := hX2.size
          have hstl := P2.stg_len
          have hts := P2.tots
          have hml := P2.mlen
          have hRl : R.length = M.length := P2.rel.len
          have hvs := P2.get_small (shaD xs)
          -- region 40
          repeat refine HW.seq ?_
          refine HW.region ?_
          refine HL.still (Runs.move f9) ?_
          intro u160 e160
          refine HL.still (Runs.loadAgg Try.underlying31 rfl sz31 f13 (encD_len (shaD xs)) (load_blk kd2)) ?_
          intro u161 e161
          refine HL.one (HO.call Try.func42 bd42 nm42 (args2 e160 e161) rfl ((P2.get_ch (shaD xs)).mono ?_))
          rintro _ h3 ⟨a3, c3, rfl, B3, Y3⟩
          intro u162 e162
          refine HL.still (Runs.move e162) ?_
          intro u159 e159
          refine HL.still (Runs.extr e159 rfl) ?_
          intro u163 e163
          refine HL.still (Runs.extr e159 rfl) ?_
          intro u164 e164
          refine HL.still (Runs.assign e163) ?_
          intro u24 e24
          refine HL.still (Runs.assign e164) ?_
          intro u25 e25
          refine HL.nil ?_
          have P3 := P2.ext Y3
          have kd3 := Y3.keepE kd2
          obtain ⟨vv, hvv⟩ : ∃ vv, vv = getP ov W M (shaD xs) := ⟨_, rfl⟩
          rw [← hvv] at B3 e24 e25 hvs
          have g24 : u24 = .slice a3 vv.1.length c3 := e24
          have g25 : u25 = .bool vv.2 := e25
          -- region 41
          repeat refine HW.seq ?_
          refine HW.region ?_
          refine HL.still (Runs.move f10) ?_
          intro u166 e166
          refine HL.still (Runs.loadAgg Try.underlying31 rfl sz31 f13 (encD_len (shaD xs)) (load_blk kd3)) ?_
          intro u167 e167
          refine HL.one (HO.call Try.func43 bd43 nm43 (args2 e166 e167) rfl ((P3.getR_ch (shaD xs)).mono ?_))
          rintro _ h4 ⟨a4, c4, rfl, B4, Y4⟩
          intro u168 e168
          refine HL.still (Runs.move e168) ?_
          intro u165 e165
          refine HL.still (Runs.extr e165 rfl) ?_
          intro u169 e169
          refine HL.still (Runs.extr e165 rfl) ?_
          intro u170 e170
          refine HL.still (Runs.assign e169) ?_
          intro u26 e26
          refine HL.still (Runs.assign e170) ?_
          intro u27 e27
          refine HL.nil ?_
          rw [← hvv] at B4 e26 e27
          have g26 : u26 = .slice a4 vv.1.length c4 := e26
          have g27 : u27 = .bool vv.2 := e27
          have P4 := P3.ext Y4
          have B3' := B3.ext Y4
          obtain ⟨ka, kc, _, _, _, hy0, hK0, _⟩ := id P4.rst
          obtain ⟨RK, hRK⟩ : ∃ RK : List Dg, RK = R.map (·.1) := ⟨_, rfl⟩
          have hRKl : R.length = RK.length := by rw [hRK, List.length_map]
          rw [← hRK] at hK0
          clear e24 e25 e26 e27 P3 P
          -- region 42
          repeat refine HW.seq ?_
          refine HW.grow #[0, 1, 3, 7, 15, 7, 39, 127, 255, 511, 1023, 1023, 4095, 8191, 16383, 32767, 65535, 32767, 262143, 524287, 1048575, 2097151, 4194303, 8388607, 16777215, 8388607, 41943039, 109051903, 243269631, 536870911, 1073741823, 2147483647, 4294967295, 8589934591, 17179869183, 8589934591, 68719476735, 137438953471, 274877906943] (fun a b => Ext a b) mixed (by kernel_rfl) (fun _ => Bel.refl _ _) (fun _ _ _ x y => Bel.ext x y (Nat.le_refl _)) ?_
          refine HM.still (fun _ => Bel.refl _ _) (fun f h K => Runs.move ((K.keep (by kernel_rfl)).trans f14)) ?_
          refine HM.still (v := .bool false) (fun _ => Bel.refl _ _) (fun f h K => Runs.notb (t := true) (show f 171 = .bool true from (K.at 0 171 rfl rfl)) rfl) ?_
          refine HM.still (fun _ => Bel.refl _ _) (fun f h K => Runs.move (K.at 1 172 rfl rfl)) ?_
          refine HM.stillG (fun _ => Bel.refl _ _) rfl rfl rfl (fun f h K => K.at 2 173 rfl rfl) (fun f h K => Runs.move ((K.keep (by kernel_rfl)).trans g24)) ?_
          refine HM.stillG (fun _ => Bel.refl _ _) rfl rfl rfl (fun f h K => K.at 2 173 rfl rfl) (fun f h K => Runs.toStrB Try.underlying29 Try.underlying5 Try.underlying9 (K.at 3 174 rfl rfl) rfl (B3'.byt.ext K.grown)) ?_
          refine HM.stillG (fun _ => Bel.refl _ _) rfl rfl rfl (fun f h K => K.at 2 173 rfl rfl) (fun f h K => Runs.move ((K.keep (by kernel_rfl)).trans g26)) ?_
          refine HM.stillG (fun _ => Bel.refl _ _) rfl rfl rfl (fun f h K => K.at 2 173 rfl rfl) (fun f h K => Runs.toStrB Try.underlying29 Try.underlying5 Try.underlying9 (K.at 5 176 rfl rfl) rfl (B4.ext K.grown)) ?_
          refine HM.stillG (fun _ => Bel.refl _ _) rfl rfl rfl (fun f h K => K.at 2 173 rfl rfl) (fun f h K => Runs.neqS (K.at 4 175 rfl rfl) (K.at 6 177 rfl rfl) (t := false) (by simp)) ?_
          refine HM.still (fun _ => Bel.refl _ _) (fun f h K => Runs.pick (K.at 2 173 rfl rfl) (K.at 7 178 rfl rfl)) ?_
          refine HM.still (fun _ => Bel.refl _ _) (fun f h K => Runs.move (K.at 8 179 rfl rfl)) ?_
          refine HM.stillG (fun _ => Bel.refl _ _) rfl rfl rfl (fun f h K => K.at 9 180 rfl rfl) (fun f h K => Runs.move ((K.keep (by kernel_rfl)).trans g25)) ?_
          refine HM.stillG (fun _ => Bel.refl _ _) rfl rfl rfl (fun f h K => K.at 9 180 rfl rfl) (fun f h K => Runs.move ((K.keep (by kernel_rfl)).trans g27)) ?_
          refine HM.stillG (fun _ => Bel.refl _ _) rfl rfl rfl (fun f h K => K.at 9 180 rfl rfl) (fun f h K => Runs.neqB Try.underlying4 (K.at 10 181 rfl rfl) (K.at 11 182 rfl rfl) (b := false) (by simp)) ?_
          refine HM.still (fun _ => Bel.refl _ _) (fun f h K => Runs.pick (K.at 9 180 rfl rfl) (K.at 12 183 rfl rfl)) ?_
          refine HM.still (fun _ => Bel.refl _ _) (fun f h K => Runs.move (K.at 13 184 rfl rfl)) ?_
          refine HM.stillG (fun _ => Bel.refl _ _) rfl rfl rfl (fun f h K => K.at 14 185 rfl rfl) (fun f h K => Runs.move ((K.keep (by kernel_rfl)).trans f9)) ?_
          refine HM.oneG (fun v hh => ∃ a c, v = .slice a (stgP ov W).length c ∧ Dgs hh a (stgP ov W)) (fun v u u' X ⟨a, c, q1, q2⟩ => ⟨a, c, q1, q2.ext X⟩) rfl rfl rfl (fun f h K => K.at 14 185 rfl rfl) (fun f h K => HO.call Try.func44 bd44 nm44 (args1 (K.at 15 186 rfl rfl)) rfl (((P4.ext K.grown).staged_ch).mono fun v h' ⟨a, c, q1, q2, q3⟩ => ⟨q3, a, c, q1, q2⟩)) ?_
          refine HM.stillG (fun _ => Bel.refl _ _) rfl rfl rfl (fun f h K => K.at 14 185 rfl rfl) (fun f h K => Runs.move ((K.keep (by kernel_rfl)).trans f10)) ?_
          refine HM.oneG (fun v hh => ∃ a c, v = .slice a (stgP ov W).length c ∧ Dgs hh a (stgP ov W)) (fun v u u' X ⟨a, c, q1, q2⟩ => ⟨a, c, q1, q2.ext X⟩) rfl rfl rfl (fun f h K => K.at 14 185 rfl rfl) (fun f h K => HO.call Try.func45 bd45 nm45 (args1 (K.at 17 188 rfl rfl)) rfl (((P4.ext K.grown).stagedR_ch).mono fun v h' ⟨a, c, q1, q2, q3⟩ => ⟨q3, a, c, q1, q2⟩)) ?_
          refine HM.oneG (fun x _ => x = .bool true) (fun _ _ _ _ e => e) rfl rfl rfl (fun f h K => K.at 14 185 rfl rfl) (fun f h K => by obtain ⟨a, c, q1, q2⟩ := K.at 16 187 rfl rfl; obtain ⟨a', c', q3, q4⟩ := K.at 18 189 rfl rfl; exact HO.call Try.func30 bd30 nm30 (args2 q1 q3) rfl ((keysT_ch h _ _ a a' _ _ c c' rfl rfl q2 q4 hstl hstl rfl).mono fun _ _ q => ⟨q.2, q.1⟩)) ?_
          refine HM.stillG (v := .bool false) (fun _ => Bel.refl _ _) rfl rfl rfl (fun f h K => K.at 14 185 rfl rfl) (fun f h K => Runs.notb (t := true) (show f 190 = .bool true from (K.at 19 190 rfl rfl)) rfl) ?_
          refine HM.still (fun _ => Bel.refl _ _) (fun f h K => Runs.pick (K.at 14 185 rfl rfl) (K.at 20 191 rfl rfl)) ?_
          refine HM.still (fun _ => Bel.refl _ _) (fun f h K => Runs.move (K.at 21 192 rfl rfl)) ?_
          refine HM.stillG (fun _ => Bel.refl _ _) rfl rfl rfl (fun f h K => K.at 22 193 rfl rfl) (fun f h K => Runs.move ((K.keep (by kernel_rfl)).trans f7)) ?_
          refine HM.oneG (fun v hh => ∃ a c, v = .slice a R.length c ∧ Dgs hh a RK) (fun v u u' X ⟨a, c, q1, q2⟩ => ⟨a, c, q1, q2.ext X⟩) rfl rfl rfl (fun f h K => K.at 22 193 rfl rfl) (fun f h K => HO.call Try.func29 bd29 nm29 (args1 (K.at 23 194 rfl rfl)) rfl (((P4.ext K.grown).keys_ch).mono fun v h' ⟨a, c, q1, q2, q3⟩ => ⟨q3, a, c, q1, by rw [hRK]; exact q2⟩)) ?_
          refine HM.stillG (fun _ => Bel.refl _ _) rfl rfl rfl (fun f h K => K.at 22 193 rfl rfl) (fun f h K => Runs.move ((K.keep (by kernel_rfl)).trans f8)) ?_
          refine HM.stillG (fun _ => Bel.refl _ _) rfl rfl rfl (fun f h K => K.at 22 193 rfl rfl) (fun f h K => Runs.nilc (K.at 25 196 rfl rfl)) ?_
          refine HM.stillG (fun _ => Bel.refl _ _) rfl rfl rfl (fun f h K => K.at 22 193 rfl rfl) (fun f h K => Runs.fld Try.underlying43 rfl sz41 (by decide) (K.at 26 197 rfl rfl) (by rfl)) ?_
          refine HM.stillG (fun _ => Bel.refl _ _) rfl rfl rfl (fun f h K => K.at 22 193 rfl rfl) (fun f h K => Runs.load Try.underlying41 rfl (K.at 27 198 rfl rfl) (by rw [cellH_of (Bel.keepE K.grown hy0)]; rfl)) ?_
          refine HM.oneG (fun x _ => x = .bool true) (fun _ _ _ _ e => e) rfl rfl rfl (fun f h K => K.at 22 193 rfl rfl) (fun f h K => by obtain ⟨a, c, q1, q2⟩ := K.at 24 195 rfl rfl; exact HO.call Try.func30 bd30 nm30 (args2 q1 (K.at 28 199 rfl rfl)) rfl ((keysT_ch h RK RK a ka _ _ c kc hRKl hRKl q2 (hK0.ext K.grown) (by omega) (by omega) rfl).mono fun _ _ q => ⟨q.2, q.1⟩)) ?_
          refine HM.stillG (v := .bool false) (fun _ => Bel.refl _ _) rfl rfl rfl (fun f h K => K.at 22 193 rfl rfl) (fun f h K => Runs.notb (t := true) (show f 200 = .bool true from (K.at 29 200 rfl rfl)) rfl) ?_
          refine HM.still (fun _ => Bel.refl _ _) (fun f h K => Runs.pick (K.at 22 193 rfl rfl) (K.at 30 201 rfl rfl)) ?_
          refine HM.still (fun _ => Bel.refl _ _) (fun f h K => Runs.move (K.at 31 202 rfl rfl)) ?_
          refine HM.stillG (fun _ => Bel.refl _ _) rfl rfl rfl (fun f h K => K.at 32 203 rfl rfl) (fun f h K => Runs.move ((K.keep (by kernel_rfl)).trans f7)) ?_
          refine HM.oneG (fun x _ => x = _) (fun _ _ _ _ e => e) rfl rfl rfl (fun f h K => K.at 32 203 rfl rfl) (fun f h K => HO.call Try.func26 bd26 nm26 (args1 (K.at 33 204 rfl rfl)) rfl ((usedX_ch h s b room M (tot M) (P4.sto.ext K.grown) rfl).mono fun _ _ q => ⟨q.2, q.1⟩)) ?_
          refine HM.stillG (fun _ => Bel.refl _ _) rfl rfl rfl (fun f h K => K.at 32 203 rfl rfl) (fun f h K => Runs.move ((K.keep (by kernel_rfl)).trans f8)) ?_
          refine HM.oneG (fun x _ => x = _) (fun _ _ _ _ e => e) rfl rfl rfl (fun f h K => K.at 32 203 rfl rfl) (fun f h K => HO.call Try.func27 bd27 nm27 (args1 (K.at 35 206 rfl rfl)) rfl ((usedRX_ch h y room M R P4.rel (P4.rst.ext K.grown) (by omega) (by omega)).mono fun _ _ q => ⟨q.2, q.1⟩)) ?_
          refine HM.stillG (fun _ => Bel.refl _ _) rfl rfl rfl (fun f h K => K.at 32 203 rfl rfl) (fun f h K => Runs.neq (K.at 34 205 rfl rfl) (K.at 36 207 rfl rfl) (t := false) (by simp)) ?_
          refine HM.still (fun _ => Bel.refl _ _) (fun f h K => Runs.pick (K.at 32 203 rfl rfl) (K.at 37 208 rfl rfl)) ?_
          intro f' h5 hR5 V O
          have g209 : f' 209 = .bool false := last_at V 38 209 rfl
          have x1 := (last_keep O (s := 1) (by kernel_rfl)).trans f1
          have x5 := (last_keep O (s := 5) (by kernel_rfl)).trans f5
          have x7 := (last_keep O (s := 7) (by kernel_rfl)).trans f7
          have x8 := (last_keep O (s := 8) (by kernel_rfl)).trans f8
          have x9 := (last_keep O (s := 9) (by kernel_rfl)).trans f9
          have x10 := (last_keep O (s := 10) (by kernel_rfl)).trans f10
          have x11 := (last_keep O (s := 11) (by kernel_rfl)).trans f11
          have x24 := (last_keep O (s := 24) (by kernel_rfl)).trans g24
          have Y5 : Ext h4 h5 := hR5
          have YE : Ext v2 h5 := (Y3.ext Y4 (Nat.le_refl _)).ext Y5 (Nat.le_refl _)
          have P5 := P2.st0 YE (by omega)
          have In5 : InB N (stamp own v2.size 0) h5 a3 vv.1.length := InB.of (B3'.ext Y5) (by omega) (fun j hj => stamp_ge hj) rfl
          have hX5 := hX2.ext YE (Nat.le_refl _)
          have z5 := hX5.size
          obtain ⟨o5, ho5⟩ : ∃ o5, o5 = stamp own v2.size 0 := ⟨_, rfl⟩
          rw [← ho5] at P5 In5
          refine HW.no g209 ?_
          refine HW.skip ?_
          clear V O hR5 g209 f1 f5 f7 f8 f9 f10 f11 f13 f14 g24 g25 g26 g27
          -- what was got is written over
          -- region 44
          repeat refine HW.seq ?_
          refine HW.region ?_
          refine HL.still (Runs.assign rfl) ?_
          intro u28 e28
          refine HL.nil ?_
          repeat refine HW.seq ?_
          refine HW.mono (N := fun f v' => f 1 = .slice (some ⟨sb, so, none⟩) l.length cap ∧ f 5 = .bool true ∧ f 7 = .pointer (some ⟨s, 0, none⟩) ∧ f 8 = .pointer (some ⟨y, 0, none⟩) ∧ f 9 = .pointer (some ⟨t, 0, none⟩) ∧ f 10 = .pointer (some ⟨q, 0, none⟩) ∧ f 11 = I64 k ∧ Tw N o5 h5 v') ?_ ?_ (fun _ _ _ q => q) (fun _ _ q => q)
          · refine HW.block ?_
            refine HW.loop (fun n f v' => ∃ j : Nat, j ≤ vv.1.length ∧ n = vv.1.length - j ∧ f 28 = I64 j ∧ f 24 = .slice a3 vv.1.length c3 ∧ (f 1 = .slice (some ⟨sb, so, none⟩) l.length cap ∧ f 5 = .bool true ∧ f 7 = .pointer (some ⟨s, 0, none⟩) ∧ f 8 = .pointer (some ⟨y, 0, none⟩) ∧ f 9 = .pointer (some ⟨t, 0, none⟩) ∧ f 10 = .pointer (some ⟨q, 0, none⟩) ∧ f 11 = I64 k) ∧ Tw N o5 h5 v' ∧ InB N o5 v' a3 vv.1.length) vv.1.length
              ⟨0, Nat.zero_le _, rfl, e28, x24, ⟨x1, x5, x7, x8, x9, x10, x11⟩, Tw.refl _ _ _, In5⟩ ?_
            clear e28 x1 x5 x7 x8 x9 x10 x11 x24
            rintro n f v' ⟨j, hj', hn, f28, f24, hfs, hTw', hIn⟩
            by_cases hjl : j < vv.1.length
            · obtain ⟨gi, cur, rfl, hgN, hcv, hcl, hg0⟩ : ∃ (gi : Nat) (cur : List Value), a3 = some ⟨gi, 0, none⟩ ∧ N ≤ gi ∧ v'[gi]? = some (.cells cur.toArray 5 (0, 0)) ∧ vv.1.length ≤ cur.length ∧ o5 gi = 0 := by
                rcases hIn with r | r
                · omega
                · exact r
              -- region 45
              repeat refine HW.seq ?_
              refine HW.region ?_
              refine HL.still (Runs.move f28) ?_
              intro u210 e210
              refine HL.still (Runs.move f24) ?_
              intro u211 e211
              refine HL.still (Runs.lenSl rfl Try.underlying29 e211) ?_
              intro u212 e212
              refine HL.still (Runs.lss e210 e212 rfl) ?_
              intro u213 e213
              refine HL.nil ?_
              repeat refine HW.seq ?_
              refine HW.yes ?_ ?_
              exact e213.trans (congrArg Value.bool (decide_eq_true (by omega)))
              refine HW.skip ?_
              repeat refine HW.seq ?_
              refine HW.block ?_
              -- region 47
              repeat refine HW.seq ?_
              refine HW.region ?_
              refine HL.still (Runs.move f24) ?_
              intro u216 e216
              refine HL.still (Runs.move f28) ?_
              intro u217 e217
              refine HL.still (Runs.ixSl (o' := 0 + j) Try.underlying29 sz5 e216 e217 (by omega) (by omega) (by omega)) ?_
              intro u218 e218
              refine HL.zero (HO.store (s := 1) sz5 e218 rfl rfl hcv (by omega) rfl ?_)
              intro hw ww
              refine HL.nil ?_
              -- region 46
              repeat refine HW.seq ?_
              refine HW.region ?_
              refine HL.still (Runs.move f28) ?_
              intro u214 e214
              refine HL.still (Runs.add e214 rfl (i64w (by omega))) ?_
              intro u215 e215
              refine HL.still (Runs.assign e215) ?_
              intro u28 e28
              refine HL.nil ?_
              exact ⟨vv.1.length - (j + 1), by omega, j + 1, by omega, rfl, e28, f24, hfs, hTw'.wr ww hg0 hgN, .inr ⟨gi, _, rfl, hgN, ww.new, by simp; omega, hg0⟩⟩
            · skip
              -- region 45
              repeat refine HW.seq ?_
              refine HW.region ?_
              refine HL.still (Runs.move f28) ?_
              intro u210 e210
              refine HL.still (Runs.move f24) ?_
              intro u211 e211
              refine HL.still (Runs.lenSl rfl Try.underlying29 e211) ?_
              intro u212 e212
              refine HL.still (Runs.lss e210 e212 rfl) ?_
              intro u213 e213
              refine HL.nil ?_
              repeat refine HW.seq ?_
              refine HW.no ?_ ?_
              exact e213.trans (congrArg Value.bool (decide_eq_false (by omega)))
              refine HW.exitHere ?_
              obtain ⟨t1, t2, t3, t4, t5, t6, t7⟩ := hfs
              exact ⟨t1, t2, t3, t4, t5, t6, t7, hTw'⟩
          clear e28 x1 x5 x7 x8 x9 x10 x11 x24
          rintro f v6 ⟨f1, f5, f7, f8, f9, f10, f11, hTw6⟩
          have P6 := P5.tw hTw6
          have hX6 : Ext h v6 := ⟨Nat.le_trans hX5.size hTw6.size, fun j hj => (hTw6.old j (by omega) (.inr (by omega))).trans (hX5.old j hj)⟩
          -- region 11
          repeat refine HW.seq ?_
          refine HW.region ?_
          refine HL.still (Runs.move f11) ?_
          intro u56 e56
          refine HL.still (Runs.add e56 rfl (i64w (by omega))) ?_
          intro u57 e57
          refine HL.still (Runs.assign e57) ?_
          intro u11 e11
          refine HL.nil ?_
          exact ⟨l.length - (k + 1), hdec, k + 1, by omega, rfl, e11, f1, f5, f7, f8, hX6, o5, M, R, W, t, q, ov, m1, m2, f9, f10, P6, hm⟩
      · have hkl : k = l.length := by omega
        subst hkl
        -- region 10
        repeat refine HW.seq ?_
        refine HW.region ?_
        refine HL.still (Runs.move f11) ?_
        intro u52 e52
        refine HL.still (Runs.move f1) ?_
        intro u53 e53
        refine HL.still (Runs.lenSl rfl Try.underlying50 e53) ?_
        intro u54 e54
        refine HL.still (Runs.lss e52 e54 rfl) ?_
        intro u55 e55
        refine HL.nil ?_
        repeat refine HW.seq ?_
        refine HW.no ?_ ?_
        exact e55.trans (congrArg Value.bool (decide_eq_false (by omega)))
        refine HW.exitHere ?_
        exact ⟨f5, hX⟩
    clear e4 e5 e6 e7 e8 e9 e10 e11 g5 g6 p0 p1 P6 L6 T6 R6 S6 Q6 XA S3 S4 S5 R4 R5 T5 L1 L4 L5
    rintro f u ⟨f5, hX⟩
    -- region 48
    repeat refine HW.seq ?_
    refine HW.region ?_
    refine HL.still (Runs.move f5) ?_
    intro u219 e219
    refine HL.still (Runs.assign e219) ?_
    intro u4 e4
    refine HL.nil ?_
    refine HW.ret ?_
    exact RT.one rfl e4 ⟨rfl, hX⟩
end Go.Proofs.Ytklelhfgbjpifaa
