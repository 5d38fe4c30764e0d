/- The document's places: onionskinref12.place, Item, Get, Cut, fine. -/
import Derived.Test.YtjopikfkgjbcgaaGreatDoorOj
import Derived.Lib.AppendZerosOnto
namespace Go.Proofs.YtjopikfkgjbcgaaGreatDoor
set_option linter.unnecessarySimpa false
set_option linter.unusedSimpArgs false
set_option linter.unusedVariables false
open Go.RowKit
theorem isPl_alt (l : List JV) (at0 : Int) : isPl l at0 = ((rightO l && decide (at0 ≥ 0)) && decide (at0 < l.length)) := by
  unfold isPl
  rw [Bool.and_comm _ (rightO l), Bool.and_assoc]
theorem count_nn {l : List JV} {k : Nat} (hr : rightO l = true) (hk : k < l.length) : 0 ≤ (l.getD k zJ).2.2.2 := by
  obtain ⟨w, hw⟩ := (right_vals hr).drop k
  rw [List.drop_eq_getElem_cons hk] at hw
  have := hw.2.1
  rw [List.getD_eq_getElem?_getD, List.getElem?_eq_getElem hk]
  exact this
set_option maxRecDepth 10000 in
/-- A row that is handed back as it is, or none. -/
theorem fine_ch (h : Heap) (l : List JV) (a : Option Addr) (n cap : Nat) (hn : n = l.length) (hB : Jvs h a l) (hl : l.length ≤ 100000) (hOk : OkJ l) :
    CH Tryz.prog 50 #[.slice a n cap] h fun v h' => v = (if rightO l = true then .slice a n cap else .slice none 0 0) ∧ Ext h h' := by
  subst hn
  refine CH.of_body Tryz.func50 rfl rfl rfl ?_
  intro f hf
  have p0 : f 0 = .slice a l.length cap := by rw [hf]; exact fr0_at rfl
  have hR := rightT_ch h l a l.length cap rfl hB hl hOk
  -- region 0
  repeat refine HW.seq ?_
  refine HW.region ?_
  refine HL.still (Runs.assign rfl) ?_
  intro u2 e2
  refine HL.nil ?_
  cases hr : rightO l with
  | false =>
    rw [hr] at hR
    -- region 1
    repeat refine HW.seq ?_
    refine HW.region ?_
    refine HL.still (Runs.move p0) ?_
    intro u4 e4
    refine HL.one (HO.call Tryz.func48 bd48 nm48 (args1 e4) rfl ((hR).mono ?_))
    rintro _ h2 ⟨rfl, X2⟩
    intro u5 e5
    refine HL.still (Runs.assign e5) ?_
    intro u3 e3
    refine HL.nil ?_
    have g3 := e3
    -- region 2
    repeat refine HW.seq ?_
    refine HW.region ?_
    refine HL.still (Runs.move g3) ?_
    intro u6 e6
    refine HL.still (Runs.notb e6 (u := true) rfl) ?_
    intro u7 e7
    refine HL.nil ?_
    refine HW.yes e7 ?_
    -- region 3
    repeat refine HW.seq ?_
    refine HW.region ?_
    refine HL.still (Runs.assign rfl) ?_
    intro u2 e2
    refine HL.nil ?_
    refine HW.ret ?_
    exact RT.one rfl e2 ⟨by rw [if_neg (by decide)], X2⟩
  | true =>
    rw [hr] at hR
    -- region 1
    repeat refine HW.seq ?_
    refine HW.region ?_
    refine HL.still (Runs.move p0) ?_
    intro u4 e4
    refine HL.one (HO.call Tryz.func48 bd48 nm48 (args1 e4) rfl ((hR).mono ?_))
    rintro _ h2 ⟨rfl, X2⟩
    intro u5 e5
    refine HL.still (Runs.assign e5) ?_
    intro u3 e3
    refine HL.nil ?_
    have g3 := e3
    -- region 2
    repeat refine HW.seq ?_
    refine HW.region ?_
    refine HL.still (Runs.move g3) ?_
    intro u6 e6
    refine HL.still (Runs.notb e6 (u := false) rfl) ?_
    intro u7 e7
    refine HL.nil ?_
    refine HW.no e7 ?_
    refine HW.skip ?_
    -- region 4
    repeat refine HW.seq ?_
    refine HW.region ?_
    refine HL.still (Runs.move p0) ?_
    intro u8 e8
    refine HL.still (Runs.assign e8) ?_
    intro u2 e2
    refine HL.nil ?_
    refine HW.ret ?_
    exact RT.one rfl e2 ⟨by rw [if_pos rfl], X2⟩
end Go.Proofs.YtjopikfkgjbcgaaGreatDoor
/-! Rows of rows of values; slices.Grow of none, slices.Concat. -/
namespace Go.Proofs.YtjopikfkgjbcgaaGreatDoor
set_option linter.unnecessarySimpa false
set_option linter.unusedSimpArgs false
set_option linter.unusedVariables false
open Go.RowKit
theorem sz23 : (Tryz.prog.info? 23).map (·.size) = some 1 := by kernel_rfl
/-- Rows of values in a slice: for each its address, its capacity, its values. -/
abbrev RowJ := Option Addr × Nat × List JV
def Jvss (h : Heap) (a : Option Addr) (L : List RowJ) : Prop := L = [] ∨ ∃ sb so, a = some ⟨sb, so, none⟩ ∧ ∀ r x, L[r]? = some x → cellH h sb (so + r) = some (.slice x.1 x.2.2.length x.2.1) ∧ Jvs h x.1 x.2.2 ∧ x.2.2.length ≤ x.2.1
theorem Jvss.ext {h h' : Heap} {a : Option Addr} {L : List RowJ} (x : Jvss h a L) (k : Ext h h') : Jvss h' a L := by
  rcases x with x | ⟨sb, so, h1, h2⟩
  · exact .inl x
  · exact .inr ⟨sb, so, h1, fun r y hy => by
      obtain ⟨q1, q2, q3⟩ := h2 r y hy
      exact ⟨by rw [cellH_keep (k.old sb (lt_of_cellH q1))]; exact q1, q2.ext k, q3⟩⟩
theorem Jvss.at {h : Heap} {a : Option Addr} {L : List RowJ} (x : Jvss h a L) {r : Nat} {y : RowJ} (hy : L[r]? = some y) : ∃ sb so, a = some ⟨sb, so, none⟩ ∧ cellH h sb (so + r) = some (.slice y.1 y.2.2.length y.2.1) ∧ Jvs h y.1 y.2.2 ∧ y.2.2.length ≤ y.2.1 := by
  rcases x with x | ⟨sb, so, h1, h2⟩
  · subst x; cases hy
  · exact ⟨sb, so, h1, h2 r y hy⟩
def rowV (x : RowJ) : Value := .slice x.1 x.2.2.length x.2.1
theorem jvss_block {h : Heap} {b : Nat} {L : List RowJ} {t : TypeId} {fr : Nat × Nat} (hb : h[b]? = some (.cells (L.map rowV).toArray t fr)) (hv : ∀ x ∈ L, Jvs h x.1 x.2.2 ∧ x.2.2.length ≤ x.2.1) : Jvss h (some ⟨b, 0, none⟩) L :=
  .inr ⟨b, 0, rfl, fun r x hx => ⟨by
    rw [cellH_of hb, Nat.zero_add]
    simp [hx, rowV], hv x (List.mem_iff_getElem?.2 ⟨r, hx⟩)⟩⟩
def flatJ (L : List RowJ) : List JV := (L.map (·.2.2)).flatten
theorem flatJ_snoc (L : List RowJ) (x : RowJ) : flatJ (L ++ [x]) = flatJ L ++ x.2.2 := by unfold flatJ; simp
theorem flatJ_take {L : List RowJ} {k : Nat} {y : RowJ} (hy : L[k]? = some y) : flatJ (L.take (k + 1)) = flatJ (L.take k) ++ y.2.2 := by
  have hk := (List.getElem?_eq_some_iff.1 hy).1
  rw [List.take_succ_eq_append_getElem hk, flatJ_snoc]
  rw [List.getElem?_eq_getElem hk] at hy
  rw [Option.some.inj hy]
theorem flatJ_take_le (L : List RowJ) (k : Nat) : (flatJ (L.take k)).length ≤ (flatJ L).length := by
  conv => rhs; rw [← List.take_append_drop k L]
  unfold flatJ
  rw [List.map_append, List.flatten_append, List.length_append]
  omega
section
variable {ρ : Operand → Value} {h : Heap} {d : Option Tmp} {ty : TypeId} {pos : String} {af : Array Edge} {gd : Option (Nat × Bool)} {K : Value → Heap → Prop} {x y z : Operand}
theorem Runs.capSl {P : Program} {T e : TypeId} {b0 : Option Addr} {len cap : Nat} {ats : Array TypeId} (ht : ats = #[T]) (hu : P.underlying T = some (.slice e)) (hx : ρ x = .slice b0 len cap) : Runs P ⟨d, .call { callee := .builtin .cap, args := #[x], argTypes := ats }, ty, pos, af, gd⟩ ρ h (.int .i64 cap) := fun w _ => by
  subst ht
  simp [BigFrame.execOp_builtin, BigFrame.builtin_cap, hx, Builtin.cap_, Sem.run_bind, run_underlying hu, goInt]
theorem run_rows2 (a b : Option Addr) (n m c e : Nat) (w : World) : (Instr.buildSlice 23 2 #[(0, .slice a n c), (1, .slice b m e)]).run Tryz.prog w = .ok (.slice (some ⟨w.heap.size, 0, none⟩) 2 2) (w.alloc (.cells #[.slice a n c, .slice b m e] 26)) := by kernel_rfl
theorem run_rows3 (a b o : Option Addr) (n m i c e j : Nat) (w : World) : (Instr.buildSlice 23 3 #[(0, .slice a n c), (1, .slice b m e), (2, .slice o i j)]).run Tryz.prog w = .ok (.slice (some ⟨w.heap.size, 0, none⟩) 3 3) (w.alloc (.cells #[.slice a n c, .slice b m e, .slice o i j] 26)) := by kernel_rfl
set_option maxRecDepth 10000 in
theorem HO.rows2 (p q : RowJ) (hx : ρ x = rowV p) (hy : ρ y = rowV q) (k : ∀ h', Nw h h' (.cells ([p, q].map rowV).toArray 26 (0, 0)) → K (.slice (some ⟨h.size, 0, none⟩) 2 2) h') : HO Tryz.prog ⟨d, .buildSlice 23 2 #[(0, x), (1, y)], ty, pos, af, gd⟩ ρ h K :=
  HO.buildSlice (cells := [p, q].map rowV) (fun w => by
    have e : (#[(0, x), (1, y)] : Array (Nat × Operand)).map (fun (i, x) => (i, ρ x)) = #[(0, rowV p), (1, rowV q)] := by simp [hx, hy]
    rw [e]
    exact run_rows2 _ _ _ _ _ _ w) k
set_option maxRecDepth 10000 in
theorem HO.rows3 (p q r : RowJ) (hx : ρ x = rowV p) (hy : ρ y = rowV q) (hz : ρ z = rowV r) (k : ∀ h', Nw h h' (.cells ([p, q, r].map rowV).toArray 26 (0, 0)) → K (.slice (some ⟨h.size, 0, none⟩) 3 3) h') : HO Tryz.prog ⟨d, .buildSlice 23 3 #[(0, x), (1, y), (2, z)], ty, pos, af, gd⟩ ρ h K :=
  HO.buildSlice (cells := [p, q, r].map rowV) (fun w => by
    have e : (#[(0, x), (1, y), (2, z)] : Array (Nat × Operand)).map (fun (i, x) => (i, ρ x)) = #[(0, rowV p), (1, rowV q), (2, rowV r)] := by simp [hx, hy, hz]
    rw [e]
    exact run_rows3 _ _ _ _ _ _ _ _ _ w) k
set_option maxRecDepth 10000 in
/-- 'append(nil, make([]T, n)...)'. -/
theorem HO.zeros {n : Nat} (hx : ρ x = .slice none 0 0) (hy : ρ y = I64 (n : Nat)) (h0 : 0 < n) (hn : n ≤ 1000000)
    (k : ∀ (c : Nat) (h' : Heap) (cs : List Value), Nw h h' (.cells cs.toArray 41 (0, 0)) → cs.length = c * 4 → n ≤ c → c ≤ maxLen → K (.slice (some ⟨h.size, 0, none⟩) n c) h') : HO Tryz.prog ⟨d, .call { callee := .builtin .append, args := #[x, y], argTypes := #[26, 3] }, ty, pos, af, gd⟩ ρ h K := by
  intro w hw
  subst hw
  cases hq : Tryz.prog.info? 41 with
  | none => have := in41; rw [hq] at this; cases this
  | some i =>
    have hi := in41
    rw [hq] at hi
    simp only [Option.map_some, Option.some.injEq, Prod.mk.injEq] at hi
    obtain ⟨hz, hs', hby⟩ := hi
    have hns : Builtin.nextslicecap n 0 = n := nextslicecap_zero h0
    have h1 := Lib.run_append_grow_zeros (P := Tryz.prog) w 26 3 ty 41 i _ .i64 .i64 Tryz.underlying26 Tryz.underlying3 hq hz none 0 0 [] (run_firstCells_none w.drew i.size 0 0 0) n h0 (by rw [hs']; decide) (by omega) (by omega) (by rw [hby]; omega) (by rw [Nat.zero_add, hns, hby]; omega)
    rw [Nat.zero_add] at h1
    generalize hgc : grownCap w n 0 41 = gc at h1
    have hge : n ≤ gc := hgc ▸ grownCap_ge w _ _ 41
    have hgm : gc ≤ maxLen := hgc ▸ grownCap_le_maxLen w _ _ 41 (Nat.le_trans hn (by decide))
    have this : (execOp ρ ⟨d, .call { callee := .builtin .append, args := #[x, y], argTypes := #[26, 3] }, ty, pos, af, gd⟩).run Tryz.prog w = .ok (.value (.slice (some ⟨w.heap.size, 0, none⟩) n gc)) (w.drew.alloc (.cells ([].toArray ++ Builtin.zeroCells (Value.agg (encJ zJ).toArray).cells n ++ Builtin.zeroCells (Value.agg (encJ zJ).toArray).cells (gc - n)) 41)) := by
      simp only [BigFrame.execOp_builtin, BigFrame.builtin_append, hx, hy, Sem.run_bind, List.map_toArray, List.map_cons, List.map_nil] at h1 ⊢
      rw [h1]
      rfl
    rw [this]
    refine ⟨⟨rfl, rfl, rfl⟩, ?_⟩
    have hN : Nw w.heap (w.drew.alloc (.cells ([].toArray ++ Builtin.zeroCells (Value.agg (encJ zJ).toArray).cells n ++ Builtin.zeroCells (Value.agg (encJ zJ).toArray).cells (gc - n)) 41)).heap (.cells ([].toArray ++ Builtin.zeroCells (Value.agg (encJ zJ).toArray).cells n ++ Builtin.zeroCells (Value.agg (encJ zJ).toArray).cells (gc - n)) 41 (0, 0)) := Nw.push _ _
    have hz4 : ∀ m, (Builtin.zeroCells (Value.agg (encJ zJ).toArray).cells m).size = m * 4 := fun m => by
      simp [Builtin.zeroCells, Value.cells, encJ]
    refine k gc _ ([].toArray ++ Builtin.zeroCells (Value.agg (encJ zJ).toArray).cells n ++ Builtin.zeroCells (Value.agg (encJ zJ).toArray).cells (gc - n)).toList ?_ ?_ hge hgm
    · rw [Array.toArray_toList]; exact hN
    · rw [Array.length_toList, Array.size_append, Array.size_append, hz4, hz4]
      simp
      omega
end
set_option maxRecDepth 10000 in
theorem grow_ch (h : Heap) (n : Nat) (hn : n ≤ 1000000) : CH Tryz.prog 55 #[.slice none 0 0, I64 (n : Nat)] h fun v h' => ∃ a c, v = .slice a 0 c ∧ Js h' h.size a c [] ∧ Ext h h' := by
  refine CH.of_body Tryz.func55 rfl rfl rfl ?_
  intro f hf
  have p0 : f 0 = .slice none 0 0 := by rw [hf]; exact fr0_at rfl
  have p1 : f 1 = I64 (n : Nat) := by rw [hf]; exact fr0_at rfl
  -- region 0
  repeat refine HW.seq ?_
  refine HW.region ?_
  refine HL.still (Runs.assign rfl) ?_
  intro u4 e4
  refine HL.nil ?_
  -- region 1
  repeat refine HW.seq ?_
  refine HW.region ?_
  refine HL.still (Runs.move p1) ?_
  intro u5 e5
  refine HL.still (Runs.lss e5 rfl (t := false) (decide_eq_false (by omega))) ?_
  intro u6 e6
  refine HL.nil ?_
  refine HW.no e6 ?_
  refine HW.skip ?_
  -- region 3
  repeat refine HW.seq ?_
  refine HW.region ?_
  refine HL.still (Runs.move p1) ?_
  intro u8 e8
  refine HL.still (Runs.move p0) ?_
  intro u9 e9
  refine HL.still (Runs.capSl rfl Tryz.underlying26 e9) ?_
  intro u10 e10
  refine HL.still (Runs.move p0) ?_
  intro u11 e11
  refine HL.still (Runs.lenSl rfl Tryz.underlying26 e11) ?_
  intro u12 e12
  refine HL.still (Runs.sub e10 e12 (c := 0) rfl) ?_
  intro u13 e13
  refine HL.still (Runs.sub e8 e13 (c := (n : Nat)) (by rw [i64w (by omega)]; omega)) ?_
  intro u14 e14
  refine HL.still (Runs.assign e14) ?_
  intro u1 e1
  refine HL.nil ?_
  have g1 := e1
  by_cases h0 : 0 < n
  · skip
    -- region 4
    repeat refine HW.seq ?_
    refine HW.region ?_
    refine HL.still (Runs.move g1) ?_
    intro u15 e15
    refine HL.still (Runs.gtr e15 rfl (t := true) (decide_eq_true (by omega))) ?_
    intro u16 e16
    refine HL.nil ?_
    refine HW.yes e16 ?_
    -- region 5
    repeat refine HW.seq ?_
    refine HW.region ?_
    refine HL.still (Runs.move p0) ?_
    intro u17 e17
    refine HL.still (Runs.move p0) ?_
    intro u18 e18
    refine HL.still (Runs.capSl rfl Tryz.underlying26 e18) ?_
    intro u19 e19
    refine HL.still (Runs.sliceSl Tryz.underlying26 sz41 e17 (lo := 0) (hi := 0) rfl ⟨_, e19⟩ (Nat.le_refl _) (Nat.le_refl _) rfl) ?_
    intro u20 e20
    refine HL.still (Runs.move g1) ?_
    intro u21 e21
    refine HL.one (HO.zeros e20 e21 h0 hn ?_)
    intro c1 h1 cs1 w1 hl1 hc1 hm1
    intro u22 e22
    refine HL.still (Runs.move p0) ?_
    intro u23 e23
    refine HL.still (Runs.lenSl rfl Tryz.underlying26 e23) ?_
    intro u24 e24
    refine HL.still (Runs.sliceSl Tryz.underlying26 sz41 e22 (lo := 0) (hi := 0) rfl ⟨_, e24⟩ (Nat.le_refl _) (Nat.zero_le _) sl0) ?_
    intro u25 e25
    refine HL.still (Runs.assign e25) ?_
    intro u0 e0
    refine HL.nil ?_
    have g0 : u0 = .slice (some ⟨h.size, 0, none⟩) 0 c1 := e0
    -- region 6
    repeat refine HW.seq ?_
    refine HW.region ?_
    refine HL.still (Runs.move g0) ?_
    intro u26 e26
    refine HL.still (Runs.assign e26) ?_
    intro u4 e4
    refine HL.nil ?_
    refine HW.ret ?_
    exact RT.one rfl e4 ⟨_, _, rfl, Js.of_blk w1.new hl1 (by simp [flJ]) (Nat.le_refl _) (Nat.zero_le _) hm1, w1.ext⟩
  · skip
    -- region 4
    repeat refine HW.seq ?_
    refine HW.region ?_
    refine HL.still (Runs.move g1) ?_
    intro u15 e15
    refine HL.still (Runs.gtr e15 rfl (t := false) (decide_eq_false (by omega))) ?_
    intro u16 e16
    refine HL.nil ?_
    refine HW.no e16 ?_
    refine HW.skip ?_
    -- region 6
    repeat refine HW.seq ?_
    refine HW.region ?_
    refine HL.still (Runs.move p0) ?_
    intro u26 e26
    refine HL.still (Runs.assign e26) ?_
    intro u4 e4
    refine HL.nil ?_
    refine HW.ret ?_
    exact RT.one rfl e4 ⟨none, 0, rfl, Js.start _ _, Bel.refl _ _⟩
set_option maxRecDepth 10000 in
set_option maxHeartbeats 1000000 in
theorem concat_ch (h : Heap) (L : List RowJ) (ra : Option Addr) (rn rc : Nat) (hn : rn = L.length) (hL : Jvss h ra L) (hlen : (flatJ L).length ≤ 100000) (hll : L.length ≤ 100000) :
    CH Tryz.prog 35 #[.slice ra rn rc] h fun v h' => ∃ a c, v = .slice a (flatJ L).length c ∧ Js h' h.size a c (flatJ L) ∧ Ext h h' := by
  subst hn
  refine CH.of_body Tryz.func35 rfl rfl rfl ?_
  intro f hf
  have p0 : f 0 = .slice ra L.length rc := by rw [hf]; exact fr0_at rfl
  -- region 0
  repeat refine HW.seq ?_
  refine HW.region ?_
  refine HL.still (Runs.assign rfl) ?_
  intro u2 e2
  refine HL.nil ?_
  -- region 1
  repeat refine HW.seq ?_
  refine HW.region ?_
  refine HL.still (Runs.assign rfl) ?_
  intro u3 e3
  refine HL.nil ?_
  -- region 2
  repeat refine HW.seq ?_
  refine HW.region ?_
  refine HL.still (Runs.move p0) ?_
  intro u9 e9
  refine HL.still (Runs.lenSl rfl Tryz.underlying23 e9) ?_
  intro u10 e10
  refine HL.still (Runs.move rfl) ?_
  intro u11 e11
  refine HL.nil ?_
  refine HW.mono (N := fun f v => f 0 = .slice ra L.length rc ∧ f 3 = I64 ((flatJ L).length : Nat) ∧ h = v) ?_ ?_ (fun _ _ _ q => q) (fun _ _ q => q)
  · refine HW.block ?_
    refine HW.loop (fun m f u => ∃ k : Nat, k ≤ L.length ∧ m = L.length - k ∧ f 11 = I64 k ∧ f 10 = I64 L.length ∧ f 9 = .slice ra L.length rc ∧ f 0 = .slice ra L.length rc ∧ f 3 = I64 ((flatJ (L.take k)).length : Nat) ∧ h = u) L.length
      ⟨0, Nat.zero_le _, rfl, e11, e10, e9, p0, e3, rfl⟩ ?_
    clear e2 e3 e9 e10 e11 p0
    rintro m f u ⟨k, hk, hm, f11, f10, f9, f0, f3, rfl⟩
    by_cases hlt : k < L.length
    · obtain ⟨y, hy⟩ : ∃ y, L[k]? = some y := ⟨_, List.getElem?_eq_getElem hlt⟩
      obtain ⟨sb, so, rfl, hcell, hyv, hyc⟩ := hL.at hy
      have htk := flatJ_take hy
      have hle := flatJ_take_le L (k + 1)
      have hln : (flatJ (L.take (k + 1))).length = (flatJ (L.take k)).length + y.2.2.length := by rw [htk, List.length_append]
      -- region 3
      repeat refine HW.seq ?_
      refine HW.region ?_
      refine HL.still (Runs.lss f11 f10 rfl) ?_
      intro u12 e12
      refine HL.nil ?_
      repeat refine HW.seq ?_
      refine HW.yes ?_ ?_
      exact e12.trans (congrArg Value.bool (decide_eq_true (by omega)))
      refine HW.skip ?_
      repeat refine HW.seq ?_
      refine HW.block ?_
      -- region 4
      repeat refine HW.seq ?_
      refine HW.region ?_
      refine HL.still (Runs.ixSl (o' := so + k) Tryz.underlying23 sz26 f9 f11 (by omega) (by omega) (by omega)) ?_
      intro u13 e13
      refine HL.still (Runs.load Tryz.underlying26 rfl e13 hcell) ?_
      intro u14 e14
      refine HL.still (Runs.assign e14) ?_
      intro u5 e5
      refine HL.nil ?_
      -- region 5
      repeat refine HW.seq ?_
      refine HW.region ?_
      refine HL.still (Runs.move f3) ?_
      intro u15 e15
      refine HL.still (Runs.move e5) ?_
      intro u16 e16
      refine HL.still (Runs.lenSl rfl Tryz.underlying26 e16) ?_
      intro u17 e17
      refine HL.still (Runs.add e15 e17 (c := ((flatJ (L.take (k + 1))).length : Nat)) (by rw [i64w (by omega)]; omega)) ?_
      intro u18 e18
      refine HL.still (Runs.assign e18) ?_
      intro u3 e3
      refine HL.nil ?_
      have g3 := e3
      -- region 6
      repeat refine HW.seq ?_
      refine HW.region ?_
      refine HL.still (Runs.move g3) ?_
      intro u19 e19
      refine HL.still (Runs.lss e19 rfl (t := false) (decide_eq_false (by omega))) ?_
      intro u20 e20
      refine HL.nil ?_
      refine HW.no e20 ?_
      refine HW.skip ?_
      -- region 8
      repeat refine HW.seq ?_
      refine HW.region ?_
      refine HL.still (Runs.add f11 rfl (i64w (by omega))) ?_
      intro u22 e22
      refine HL.still (Runs.move e22) ?_
      intro u11 e11
      refine HL.nil ?_
      exact ⟨L.length - (k + 1), by omega, k + 1, by omega, rfl, e11, f10, f9, f0, g3, rfl⟩
    · have hkl : k = L.length := by omega
      subst hkl
      rw [List.take_of_length_le (Nat.le_refl _)] at f3
      -- region 3
      repeat refine HW.seq ?_
      refine HW.region ?_
      refine HL.still (Runs.lss f11 f10 rfl) ?_
      intro u12 e12
      refine HL.nil ?_
      repeat refine HW.seq ?_
      refine HW.no ?_ ?_
      exact e12.trans (congrArg Value.bool (decide_eq_false (by omega)))
      refine HW.exitHere ?_
      exact ⟨f0, f3, rfl⟩
  clear e2 e3 e9 e10 e11 p0
  rintro f v ⟨f0, f3, rfl⟩
  -- region 9
  repeat refine HW.seq ?_
  refine HW.region ?_
  refine HL.still (Runs.move f3) ?_
  intro u23 e23
  refine HL.one (HO.call Tryz.func55 bd55 nm55 (args2 rfl e23) rfl ((grow_ch h (flatJ L).length (by omega)).mono ?_))
  rintro _ h2 ⟨a2, c2, rfl, J2, X2⟩
  intro u24 e24
  refine HL.still (Runs.assign e24) ?_
  intro u6 e6
  refine HL.nil ?_
  have g6 := e6
  -- region 10
  repeat refine HW.seq ?_
  refine HW.region ?_
  refine HL.still (Runs.move f0) ?_
  intro u25 e25
  refine HL.still (Runs.lenSl rfl Tryz.underlying23 e25) ?_
  intro u26 e26
  refine HL.still (Runs.move rfl) ?_
  intro u27 e27
  refine HL.nil ?_
  repeat refine HW.seq ?_
  refine HW.block ?_
  refine HW.loop (fun m f u => ∃ (k : Nat) (a : Option Addr) (c : Nat), k ≤ L.length ∧ m = L.length - k ∧ f 27 = I64 k ∧ f 26 = I64 L.length ∧ f 25 = .slice ra L.length rc ∧ f 6 = .slice a (flatJ (L.take k)).length c ∧ Js u h.size a c (flatJ (L.take k)) ∧ Ext h u) L.length
    ⟨0, a2, c2, Nat.zero_le _, rfl, e27, e26, e25, g6, J2, X2⟩ ?_
  clear e6 g6 e25 e26 e27 f0 f3
  rintro m f u ⟨k, a, c, hk, hm, f27, f26, f25, f6, J, hX⟩
  by_cases hlt : k < L.length
  · obtain ⟨y, hy⟩ : ∃ y, L[k]? = some y := ⟨_, List.getElem?_eq_getElem hlt⟩
    obtain ⟨sb, so, rfl, hcell, hyv, hyc⟩ := (hL.ext hX).at hy
    have htk := flatJ_take hy
    have hle := flatJ_take_le L (k + 1)
    have hln : (flatJ (L.take (k + 1))).length = (flatJ (L.take k)).length + y.2.2.length := by rw [htk, List.length_append]
    -- region 11
    repeat refine HW.seq ?_
    refine HW.region ?_
    refine HL.still (Runs.lss f27 f26 rfl) ?_
    intro u28 e28
    refine HL.nil ?_
    repeat refine HW.seq ?_
    refine HW.yes ?_ ?_
    exact e28.trans (congrArg Value.bool (decide_eq_true (by omega)))
    refine HW.skip ?_
    repeat refine HW.seq ?_
    refine HW.block ?_
    -- region 12
    repeat refine HW.seq ?_
    refine HW.region ?_
    refine HL.still (Runs.ixSl (o' := so + k) Tryz.underlying23 sz26 f25 f27 (by omega) (by omega) (by omega)) ?_
    intro u29 e29
    refine HL.still (Runs.load Tryz.underlying26 rfl e29 hcell) ?_
    intro u30 e30
    refine HL.still (Runs.assign e30) ?_
    intro u8 e8
    refine HL.nil ?_
    -- region 13
    repeat refine HW.seq ?_
    refine HW.region ?_
    refine HL.still (Runs.move f6) ?_
    intro u31 e31
    refine HL.still (Runs.move e8) ?_
    intro u32 e32
    refine HL.one (HO.dapp e31 e32 rfl rfl J hyv (by omega) hX.size ?_)
    intro a6 c6 h6 J6 G6
    intro u33 e33
    refine HL.still (Runs.assign e33) ?_
    intro u6 e6
    refine HL.nil ?_
    rw [← htk] at J6 e6
    have g6 := e6
    -- region 14
    repeat refine HW.seq ?_
    refine HW.region ?_
    refine HL.still (Runs.add f27 rfl (i64w (by omega))) ?_
    intro u34 e34
    refine HL.still (Runs.move e34) ?_
    intro u27 e27
    refine HL.nil ?_
    exact ⟨L.length - (k + 1), by omega, k + 1, a6, c6, by omega, rfl, e27, f26, f25, g6, J6, G6.belJ hX J (Nat.le_refl _) (Nat.le_refl _)⟩
  · have hkl : k = L.length := by omega
    subst hkl
    rw [List.take_of_length_le (Nat.le_refl _)] at f6 J
    -- region 11
    repeat refine HW.seq ?_
    refine HW.region ?_
    refine HL.still (Runs.lss f27 f26 rfl) ?_
    intro u28 e28
    refine HL.nil ?_
    repeat refine HW.seq ?_
    refine HW.no ?_ ?_
    exact e28.trans (congrArg Value.bool (decide_eq_false (by omega)))
    refine HW.exitHere ?_
    -- region 15
    repeat refine HW.seq ?_
    refine HW.region ?_
    refine HL.still (Runs.move f6) ?_
    intro u35 e35
    refine HL.still (Runs.assign e35) ?_
    intro u2 e2
    refine HL.nil ?_
    refine HW.ret ?_
    exact RT.one rfl e2 ⟨a, c, rfl, J, hX⟩
end Go.Proofs.YtjopikfkgjbcgaaGreatDoor
