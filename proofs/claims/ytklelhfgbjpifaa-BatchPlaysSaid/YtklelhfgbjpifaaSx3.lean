/- slices.Clone of digests. -/
import Derived.Test.YtklelhfgbjpifaaSx2
import Derived.RangeFuncLeaves
import Derived.RangeFuncRecord
import Derived.RangeFuncCalls
import Derived.Maps.RangeRun
import Derived.Shelf.SlSortCmp.NoneTotal
import Derived.Shelf.SlMaps.Clone
namespace Go.Proofs.Ytklelhfgbjpifaa
set_option linter.unnecessarySimpa false
set_option linter.unusedSimpArgs false
set_option linter.unusedVariables false
open Go.RowKit
section
variable {ρ : Operand → Value} {h : Heap} {d : Option Tmp} {ty : TypeId} {pos : String} {af : Array Edge} {gd : Option (Nat × Bool)} {x y : Operand}
theorem run_nilDs (n c : Nat) (w : World) : (binOp .eql 41 (.slice none n c) (.slice none 0 0)).run Try.prog w = .ok (.bool true) w := by kernel_rfl
theorem run_nonDs (a : Addr) (n c : Nat) (w : World) : (binOp .eql 41 (.slice (some a) n c) (.slice none 0 0)).run Try.prog w = .ok (.bool false) w := by kernel_rfl
theorem Runs.eqNilDs {a : Option Addr} {n c : Nat} (hx : ρ x = .slice a n c) (hy : ρ y = .slice none 0 0) : Runs Try.prog ⟨d, .binOp .eql 41 x y 41, ty, pos, af, gd⟩ ρ h (.bool a.isNone) := fun w _ => by
  have h1 : (eqGuard .eql 41 x y (.slice a n c) (.slice none 0 0)).run Try.prog w = .ok () w := by
    unfold eqGuard
    simp
  have h2 : (binOp .eql 41 (.slice a n c) (.slice none 0 0)).run Try.prog w = .ok (.bool a.isNone) w := by
    cases a with
    | none => exact run_nilDs n c w
    | some a => exact run_nonDs a n c w
  simp only [execOp, hx, hy, Sem.run_bind, h1, Result.andThen_ok, h2]
  rfl
end
theorem Ds.start (h : Heap) (base : Nat) : Ds h base none 0 [] := ⟨Own.nil h base 31 32, Nat.le_refl _⟩
set_option maxRecDepth 10000 in
theorem cloneD_ch (h : Heap) (l : List Dg) (a : Option Addr) (n cap : Nat) (hn : n = l.length) (hsrc : Dgs h a l) (hlen : l.length ≤ 1000000) :
    CH Try.prog 59 #[.slice a n cap] h fun v h' => ∃ a' c', v = .slice a' l.length c' ∧ Ds h' h.size a' c' l ∧ Ext h h' := by
  subst hn
  refine CH.of_body Try.func59 rfl rfl rfl ?_
  intro f hf
  have p0 : f 0 = .slice a l.length cap := by rw [hf]; exact fr0_at rfl
  -- region 0
  repeat refine HW.seq ?_
  refine HW.region ?_
  refine HL.still (Runs.assign rfl) ?_
  intro u2 e2
  refine HL.nil ?_
  -- region 1
  repeat refine HW.seq ?_
  refine HW.region ?_
  refine HL.still (Runs.move p0) ?_
  intro u3 e3
  refine HL.still (Runs.eqNilDs e3 rfl) ?_
  intro u4 e4
  refine HL.nil ?_
  cases a with
  | none =>
    have hxs : l = [] := by
      rcases hsrc with q | ⟨sb, so, q, _⟩
      · exact q
      · cases q
    subst hxs
    refine HW.yes e4 ?_
    -- region 2
    repeat refine HW.seq ?_
    refine HW.region ?_
    refine HL.still (Runs.assign rfl) ?_
    intro u2 e2
    refine HL.nil ?_
    refine HW.ret ?_
    exact RT.one rfl e2 ⟨none, 0, rfl, Ds.start h h.size, Bel.refl _ _⟩
  | some a =>
    refine HW.no e4 ?_
    refine HW.skip ?_
    -- region 3
    repeat refine HW.seq ?_
    refine HW.region ?_
    refine HL.one (HO.dgs0 ?_)
    intro h1 w1
    intro u5 e5
    refine HL.still (Runs.move p0) ?_
    intro u6 e6
    refine HL.one (HO.dapp e5 e6 rfl rfl (Ds.lit (l := []) w1 (Nat.le_refl _) (Nat.zero_le _)) (hsrc.ext w1.ext) (by simp; omega) (by rw [w1.size]; omega) ?_)
    intro a5 c5 h5 B5 G5
    intro u7 e7
    refine HL.still (Runs.assign e7) ?_
    intro u2 e2
    refine HL.nil ?_
    refine HW.ret ?_
    exact RT.one rfl e2 ⟨a5, c5, rfl, B5, G5.belD w1.ext (Ds.lit (l := []) w1 (Nat.le_refl _) (Nat.zero_le _)) (Nat.le_refl _) (Nat.le_refl _)⟩
end Go.Proofs.Ytklelhfgbjpifaa
/-! Rules for code that is walked inside a fence: a call of yield; the rounds of a range over a function. -/
namespace Go.Proofs.Ytklelhfgbjpifaa
set_option linter.unnecessarySimpa false
set_option linter.unusedSimpArgs false
set_option linter.unusedVariables false
open Go.RowKit
/-- A fence that keeps nothing out. -/
structure Loose (P : Program) (F : Fence) : Prop where
  fn : ∀ f, F.fn f
  depth : F.depth = none
  calls : ∀ fn args w R, Calls P fn args w R → CallsIn F 0 P fn args w R
theorem loose_wide (P : Program) : Loose P Fence.wide := ⟨fun _ => trivial, rfl, fun _ _ _ _ h => callsIn_wide.2 h⟩
theorem loose_round (P : Program) (l : Nat) : Loose P (Fence.wide.inRound l) := ⟨fun _ => trivial, rfl, fun _ _ _ _ h => (callsIn_wide.2 h).inRound l⟩
/-- The frame 'a' holds what 'f' says; its deferred calls are 'ds'. -/
structure RepD (ds : List Deferred) (n : Nat) (f : St) (a : Act) : Prop where
  defers : a.defers = ds
  size : a.tmps.size = n
  slot : ∀ i, a.tmps.getD i undef = f i
theorem RepD.eval {ds : List Deferred} {n : Nat} {f : St} {a : Act} (h : RepD ds n f a) : a.eval = ev f := by
  funext x; cases x with
  | tmp t => exact h.slot t
  | _ => rfl
theorem RepD.put {ds : List Deferred} {n : Nat} {f : St} {a : Act} (h : RepD ds n f a) (d : Nat) (hd : d < n) (v : Value) : RepD ds n (upd f d v) (a.put (some d) v) := by
  refine ⟨h.defers, by simp [Act.put, h.size], fun i => ?_⟩
  by_cases e : i = d
  · subst e
    have : i < a.tmps.size := by rw [h.size]; exact hd
    rw [upd_eq]; simp [Act.put, this]
  · rw [upd_ne _ _ _ _ e, ← h.slot i]
    simp only [Act.put, Array.getD_eq_getD_getElem?, Array.getElem?_setIfInBounds]
    rw [if_neg (Ne.symm e)]
theorem RepD.puto {ds : List Deferred} {n : Nat} {f : St} {a : Act} (h : RepD ds n f a) (d : Option Nat) (hd : okDst n d = true) (v : Value) : RepD ds n (updo f d v) (a.put d v) := by
  cases d with
  | none => exact h
  | some d => exact h.put d (by simpa [okDst, Nat.blt_eq] using hd) v
theorem RepD.of_rep {n : Nat} {f : St} {a : Act} (h : Rep n f a) : RepD [] n f a := ⟨h.defers, h.size, h.slot⟩
def LQi (ds : List Deferred) (n : Nat) (w : World) (K : St → Heap → Prop) : Exit → Act → World → Prop := fun e a' w' => e = .normal ∧ ∃ f', RepD ds n f' a' ∧ Rest w w' ∧ K f' w'.heap
/-- A list of operations inside a fence, in the order of the text. -/
def HLi (F : Fence) (ds : List Deferred) (P : Program) (n : Nat) (ops : Array Oper) (l : List Oper) (K : St → Heap → Prop) (f : St) (h : Heap) : Prop :=
  ∀ (a : Act) (w0 w : World), RepD ds n f a → Rest w0 w → w.heap = h → wpListIn F 0 P ops (LQi ds n w0 K) l a w
section
variable {F : Fence} {ds : List Deferred} {P : Program} {n : Nat} {ops : Array Oper} {l : List Oper} {f : St} {h : Heap} {K : St → Heap → Prop}
theorem HLi.nil (k : K f h) : HLi F ds P n ops [] K f h := fun _ _ _ ha hr hw => ⟨rfl, f, ha, hr, hw ▸ k⟩
theorem HLi.step (hF : Loose P F) {o : Oper} (hg : o.guard = none) (hdf : ∀ c, o.op ≠ .defer c) (hd : okDst n o.dst = true) (ho : HO P o (ev f) h fun v h' => HLi F ds P n ops l K (updo f o.dst v) h') : HLi F ds P n ops (o :: l) K f h := by
  intro a w0 w ha hr hw
  have h1 := ho w hw
  rw [← ha.eval] at h1
  refine wpListIn_plain hg fun KK hK => ?_
  unfold Oper.wpIn
  refine ⟨fun _ _ => hF.fn _, ?_⟩
  rw [Oper.semAt_eq _ _ _ hdf]
  generalize (execOp a.eval o).run P w = r at h1
  cases r with
  | halt x w' => simp [Out] at h1
  | ok nx w' =>
    cases nx with
    | value v => exact hK _ _ (h1.2 _ w0 _ (ha.puto _ hd v) (hr.trans h1.1) rfl)
    | skip => exact hK _ _ (h1.2 _ w0 _ (ha.puto _ hd undef) (hr.trans h1.1) rfl)
    | enter fn args =>
      rw [Oper.uponIn_enter]
      refine ⟨fun e => (by rw [hF.depth] at e; cases e), hF.calls _ _ _ _ ((h1.2 w' rfl).mono fun e w'' ⟨v, he, hr2, hk⟩ => ?_)⟩
      subst he
      exact hK _ _ (hk _ w0 _ (ha.puto _ hd v) (hr.trans (h1.1.trans hr2)) rfl)
    | _ => simp [Out] at h1
variable {d : Nat} {oq : Op} {ty : TypeId} {pos : String} {af : Array Edge}
theorem HLi.one (hF : Loose P F) (ho : HO P ⟨some d, oq, ty, pos, af, none⟩ (ev f) h fun v h' => ∀ u, u = v → HLi F ds P n ops l K (upd f d u) h') (hdf : ∀ c, oq ≠ .defer c := by (intro c e; cases e)) (hd : okDst n (some d) = true := by rfl) : HLi F ds P n ops (⟨some d, oq, ty, pos, af, none⟩ :: l) K f h :=
  HLi.step hF rfl hdf hd (HO.mono ho fun _ _ k => k _ rfl)
theorem HLi.zero (hF : Loose P F) (ho : HO P ⟨none, oq, ty, pos, af, none⟩ (ev f) h fun _ h' => HLi F ds P n ops l K f h') (hdf : ∀ c, oq ≠ .defer c := by (intro c e; cases e)) : HLi F ds P n ops (⟨none, oq, ty, pos, af, none⟩ :: l) K f h :=
  HLi.step hF rfl hdf rfl ho
theorem HLi.still (hF : Loose P F) {v : Value} (r : Runs P ⟨some d, oq, ty, pos, af, none⟩ (ev f) h v) (k : ∀ u, u = v → HLi F ds P n ops l K (upd f d u) h) (hdf : ∀ c, oq ≠ .defer c := by (intro c e; cases e)) (hd : okDst n (some d) = true := by rfl) : HLi F ds P n ops (⟨some d, oq, ty, pos, af, none⟩ :: l) K f h :=
  HLi.one hF (HO.of_runs r k) hdf hd
/-- A call of yield. -/
theorem HLi.yield (hF : Loose P F) {c x : Operand} {ats : Array TypeId} {lp : Nat} {v : Value} (hc : ev f c = .func (.yield lp) #[] #[]) (hx : ev f x = v)
    (hy : ∀ w : World, w.heap = h → ∃ fn tmps A B, (Instr.yield lp #[v]).run P w = .ok (.round lp fn tmps A B) w ∧ RoundIn F 0 P lp fn tmps A B w fun e w' => ∃ u, e = .returned u ∧ Rest w w' ∧ HLi F ds P n ops l K (upd f d u) w'.heap)
    (hd : okDst n (some d) = true := by rfl) : HLi F ds P n ops (⟨some d, .call { callee := .value c, args := #[x], argTypes := ats }, ty, pos, af, none⟩ :: l) K f h := by
  intro a w0 w ha hr hw
  obtain ⟨fn, tmps, A, B, h1, h2⟩ := hy w hw
  refine wpListIn_plain rfl fun KK hK => ?_
  unfold Oper.wpIn
  refine ⟨fun _ _ => hF.fn _, ?_⟩
  rw [Oper.semAt_eq _ _ _ (fun c e => by cases e)]
  have hx' : a.eval x = v := by rw [ha.eval]; exact hx
  have hc' : a.eval c = .func (.yield lp) #[] #[] := by rw [ha.eval]; exact hc
  have h3 : (execOp a.eval ⟨some d, .call { callee := .value c, args := #[x], argTypes := ats }, ty, pos, af, none⟩).run P w = .ok (.round lp fn tmps A B) w := by
    simp [execOp, resolve, hc', hx', Deferred.ofValue, invoke, Sem.run_bind, h1]
  rw [h3, Oper.uponIn_round]
  refine ⟨fun e => (by rw [hF.depth] at e; cases e), h2.mono fun e w' ⟨u, he, hr2, hk⟩ => ?_⟩
  subst he
  exact hK _ _ (hk _ w0 _ (ha.puto (some d) hd u) (hr.trans hr2) rfl)
/-- A region with a call of yield, in the logic of Core. -/
theorem HW.regionI {id : Nat} {N : St → Heap → Prop} {X : Nat → St → Heap → Prop} {R : St → Heap → Prop} (k : HLi Fence.wide [] P n l.toArray l N f h) : HW P n (.region id l.toArray false) N X R f h := by
  intro a w0 w ha hr hw
  refine (wpIn_wide (n := 0)).1 (wpIn_mono (wpIn_region_lit (k a w0 w (.of_rep ha) hr hw)) ?_)
  rintro e a' w' ⟨rfl, f', h1, h2, h3⟩
  exact ⟨f', ⟨h1.defers, h1.size, h1.slot⟩, h2, h3⟩
/-- Code inside a fence that ends at its end. -/
def HWi (F : Fence) (ds : List Deferred) (P : Program) (n : Nat) (c : Code) (N : St → Heap → Prop) (f : St) (h : Heap) : Prop :=
  ∀ (a : Act) (w0 w : World), RepD ds n f a → Rest w0 w → w.heap = h → c.wpIn F 0 P (LQi ds n w0 N) a w
theorem HWi.region {id : Nat} {N : St → Heap → Prop} (k : HLi F ds P n l.toArray l N f h) : HWi F ds P n (.region id l.toArray false) N f h := fun a w0 w ha hr hw => wpIn_region_lit (k a w0 w ha hr hw)
theorem HWi.block {id : Nat} {c : Code} {N : St → Heap → Prop} (k : HWi F ds P n c N f h) : HWi F ds P n (.block id c) N f h := fun a w0 w ha hr hw => wpIn_block (wpIn_mono (k a w0 w ha hr hw) fun e a' w' ⟨he, q⟩ => by subst he; exact ⟨rfl, q⟩)
end
end Go.Proofs.Ytklelhfgbjpifaa
/-! maps.Keys, slices.Collect: the keys of a map of digests, in some order. -/
namespace Go.Proofs.Ytklelhfgbjpifaa
set_option linter.unnecessarySimpa false
set_option linter.unusedSimpArgs false
set_option linter.unusedVariables false
open Go.RowKit
section
variable {F : Fence} {ds : List Deferred} {P : Program} {n : Nat} {f : St} {h : Heap}
theorem HWi.use {c : Code} {N : St → Heap → Prop} (k : HWi F ds P n c N f h) {a : Act} {w0 w : World} (ha : RepD ds n f a) (hr : Rest w0 w) (hw : w.heap = h) {Q : Exit → Act → World → Prop} (q : ∀ a' w' f', RepD ds n f' a' → Rest w0 w' → N f' w'.heap → Q .normal a' w') : c.wpIn F 0 P Q a w :=
  wpIn_mono (k a w0 w ha hr hw) fun e a' w' ⟨he, f', h1, h2, h3⟩ => by subst he; exact q a' w' f' h1 h2 h3
theorem wr_putObj {w : World} {r : Nat} (o : Obj) (hr : r < w.heap.size) : Wr w.heap (w.putObj r o).heap r o := ⟨World.putObj_size, World.putObj_heap_same hr, fun j hj => World.putObj_heap_other hj⟩
/-- A round of a range over a function that ends at its body's end. -/
theorem round_of {A B : Code} {lp : Nat} {fn : FuncId} {tmps : Array Value} {NA : St → Heap → Prop} {Kf : Heap → Prop} {w : World} (hw : w.heap = h) (hrep : RepD [] n f { tmps := tmps, defers := [] })
    (hA : HWi (Fence.wide.inRound lp) [] P n A NA f h)
    (hB : ∀ f1 h1, NA f1 h1 → ∃ r, h1[lp]? = some (.loop r) ∧ r.state = .ready ∧ ∀ h1', Wr h1 h1' lp (.loop { r with state := .busy }) → HWi (Fence.wide.inRound lp) [] P n B (fun _ h2 => ∃ r2, h2[lp]? = some (.loop r2) ∧ ∀ h3, Wr h2 h3 lp (.loop { r2 with state := .ready, pending := none }) → Kf h3) f1 h1') :
    RoundIn Fence.wide 0 P lp fn tmps A B w fun e w' => e = .returned (.bool true) ∧ Rest w w' ∧ Kf w'.heap := by
  refine roundIn_of_wpIn trivial (hA.use hrep (Rest.refl w) hw fun a1 w1 f1 r1 s1 k1 => ?_)
  obtain ⟨r, hr, hst, hb⟩ := hB f1 _ k1
  refine ⟨_, run_beginRound hr hst, ?_⟩
  refine HWi.use (w := w1.putObj lp (.loop { r with state := .busy })) (hb _ (wr_putObj _ (lt_of_some hr))) r1 (w0 := w) ⟨s1.os, s1.tape, s1.output⟩ rfl fun a2 w2 f2 r2 s2 k2 => ?_
  obtain ⟨rr, hrr, hk⟩ := k2
  exact ⟨_, _, run_endRound none hrr, rfl, ⟨s2.os, s2.tape, s2.output⟩, hk _ (wr_putObj _ (lt_of_some hrr))⟩
end
section
variable {ρ : Operand → Value} {h : Heap} {d : Option Tmp} {ty : TypeId} {pos : String} {af : Array Edge} {gd : Option (Nat × Bool)} {K : Value → Heap → Prop} {x y : Operand}
theorem und63 : Try.prog.underlying 63 = some (.map 31 29) := Try.underlying63
theorem HO.rangeD {b : Nat} {es : Array MapEntry} {cl : Nat} (hx : ρ x = .map (some b)) (hb : h[b]? = some (.map es cl)) (k : ∀ h', Nw h h' (.mapIter (some b) cl #[] cl) → K (.pointer (some ⟨h.size, 0, none⟩)) h') : HO Try.prog ⟨d, .range 63 x, ty, pos, af, gd⟩ ρ h K := by
  intro w hw
  subst hw
  have h1 := run_range_map (P := Try.prog) w 63 31 29 b es cl und63 hb
  have : (execOp ρ ⟨d, .range 63 x, ty, pos, af, gd⟩).run Try.prog w = .ok (.value (.pointer (some ⟨w.heap.size, 0, none⟩))) (w.alloc (.mapIter (some b) cl #[] cl)) := by
    simp only [execOp, hx, Sem.run_bind, h1]
    rfl
  rw [this]
  refine ⟨⟨rfl, rfl, rfl⟩, ?_⟩
  rw [heap_alloc]
  exact k _ (Nw.push _ _)
theorem HO.nextD {P : Program} {b r since c0 cl : Nat} {seen : Array Nat} {es : Array MapEntry} (hx : ρ x = .pointer (some ⟨r, 0, none⟩)) (hr : h[r]? = some (.mapIter (some b) since seen c0)) (hb : h[b]? = some (.map es cl)) (hold : ∀ e ∈ es.toList, e.born < since) (hsc : since ≤ c0)
    (k0 : (Go.leftOf es seen).size = 0 → K (.tuple #[.bool false]) h)
    (k1 : ∀ e ∈ (Go.leftOf es seen).toList, ∀ h', Wr h h' r (.mapIter (some b) since (seen.push e.born) cl) → K (.tuple #[.bool true, e.key, e.val]) h') : HO P ⟨d, .next x false, ty, pos, af, gd⟩ ρ h K := by
  intro w hw
  subst hw
  rcases run_next_at (P := P) w ty r b since c0 seen es cl hr hb hold hsc with ⟨h1, h2⟩ | ⟨e, he, w1, hal, h2⟩
  · have : (execOp ρ ⟨d, .next x false, ty, pos, af, gd⟩).run P w = .ok (.value (.tuple #[.bool false])) w := by
      simp only [execOp, hx, Sem.run_bind, h2]
      rfl
    rw [this]
    exact ⟨Rest.refl _, k0 h1⟩
  · have : (execOp ρ ⟨d, .next x false, ty, pos, af, gd⟩).run P w = .ok (.value (.tuple #[.bool true, e.key, e.val])) (Go.ChangeMaps.setBlock w1 r (.mapIter (some b) since (seen.push e.born) cl)) := by
      simp only [execOp, hx, Sem.run_bind, h2]
      rfl
    rw [this]
    have hlt := lt_of_some hr
    have hh : w1.heap = w.heap := by rcases hal with rfl | rfl <;> rfl
    refine ⟨⟨by rcases hal with rfl | rfl <;> rfl, by rcases hal with rfl | rfl <;> rfl, by rcases hal with rfl | rfl <;> rfl⟩, k1 e he _ ⟨?_, ?_, fun j hj => ?_⟩⟩
    · simp [Go.ChangeMaps.setBlock, hh]
    · simp [Go.ChangeMaps.setBlock, hh, hlt]
    · simp [Go.ChangeMaps.setBlock, hh, Array.getElem?_setIfInBounds, Ne.symm hj]
theorem Runs.entryD {P : Program} {b r since cl : Nat} {seen : Array Nat} {es : Array MapEntry} {e : MapEntry} (hx : ρ x = .pointer (some ⟨r, 0, none⟩)) (hr : h[r]? = some (.mapIter (some b) since (seen.push e.born) cl)) (hb : h[b]? = some (.map es cl)) (he : e ∈ es.toList) (hn : (es.toList.map (·.born)).Nodup) :
    Runs P ⟨d, .entry x, ty, pos, af, gd⟩ ρ h (.tuple #[e.key, e.val]) := fun w hw => by
  subst hw
  have h1 := run_entry_at (P := P) w r b since seen es cl e hr hb he hn
  simp only [execOp, hx, Sem.run_bind, h1]
  rfl
theorem Runs.makeFuncK {k : Nat} {v : Value} (hx : ρ x = v) : Runs Try.prog ⟨d, .makeFunc (.func k) #[] #[x], ty, pos, af, gd⟩ ρ h (.func (.func k) #[] #[v]) := fun w _ => by
  simp [execOp, Instr.makeFunc, hx, Sem.run_bind]
end
/-- The digest that a key is. -/
noncomputable def keyOfE (e : MapEntry) : Dg := Classical.epsilon fun x => keyV x = e.key
theorem keyOfE_eq {e : MapEntry} {x : Dg} (h : e.key = keyV x) : keyOfE e = x := keyV_inj ((Classical.epsilon_spec (p := fun x => keyV x = e.key) ⟨x, h.symm⟩).trans h)
theorem keyOfE_map {es : List MapEntry} {L : List (Dg × Value)} (he : es.map (fun e => (e.key, e.val)) = L.map (fun p => (keyV p.1, p.2))) : es.map keyOfE = L.map (·.1) ∧ ∀ e ∈ es, e.key = keyV (keyOfE e) := by
  induction es generalizing L with
  | nil => cases L with
    | nil => exact ⟨rfl, fun _ h => by cases h⟩
    | cons => cases he
  | cons e es ih =>
    cases L with
    | nil => cases he
    | cons p L =>
      rw [List.map_cons, List.map_cons] at he
      injection he with h1 h2
      obtain ⟨i1, i2⟩ := ih h2
      injection h1 with h1 _
      refine ⟨by rw [List.map_cons, List.map_cons, i1, keyOfE_eq h1], fun e' h' => ?_⟩
      rcases List.mem_cons.1 h' with rfl | h'
      · rw [keyOfE_eq h1]; exact h1
      · exact i2 e' h'
theorem left_perm {es : Array MapEntry} {seen : Array Nat} {sl : List MapEntry} (h0 : (Go.leftOf es seen).size = 0) (hs : seen.toList = sl.map (·.born)) (hn : sl.Nodup) (hsub : ∀ e ∈ sl, e ∈ es.toList) (hb : (es.toList.map (·.born)).Nodup) : sl.Perm es.toList := by
  have hes : es.toList.Nodup := List.Pairwise.of_map (·.born) (fun a b h e => h (congrArg _ e)) hb
  refine (List.perm_ext_iff_of_nodup hn hes).2 fun e => ⟨hsub e, fun he => ?_⟩
  have h1 : Go.leftOf es seen = #[] := Array.eq_empty_of_size_eq_zero h0
  unfold Go.leftOf at h1
  rw [Array.filter_eq_empty_iff] at h1
  have h2 := h1 e (by simpa using he)
  have h3 : e.born ∈ seen.toList := by simpa using h2
  rw [hs] at h3
  obtain ⟨e', h4, h5⟩ := List.mem_map.1 h3
  have : e' = e := by
    have hp := List.pairwise_map.1 hb
    have h6 := hsub e' h4
    exact Classical.byContradiction fun hne => by
      obtain ⟨i, hi⟩ := List.mem_iff_getElem?.1 h6
      obtain ⟨j, hj⟩ := List.mem_iff_getElem?.1 he
      have h7 : (es.toList.map (·.born))[i]? = some e'.born := by rw [List.getElem?_map, hi]; rfl
      have h8 : (es.toList.map (·.born))[j]? = some e.born := by rw [List.getElem?_map, hj]; rfl
      rw [h5] at h7
      have hil := (List.getElem?_eq_some_iff.1 h7).1
      have hjl := (List.getElem?_eq_some_iff.1 h8).1
      have hij : i = j := by
        refine (List.getElem_inj hb (h₀ := hil) (h₁ := hjl)).1 ?_
        rw [(List.getElem?_eq_some_iff.1 h7).2, (List.getElem?_eq_some_iff.1 h8).2]
      subst hij
      rw [hi] at hj
      exact hne (Option.some.inj hj)
  rw [← this]
  exact h4
set_option maxRecDepth 10000 in
/-- The iterator that maps.Keys hands out, at yields that go on: the keys come, each once, in some order. -/
theorem seq_ch (h : Heap) (lp b Bm : Nat) (es : Array MapEntry) (cl : Nat) (J : List Dg → Heap → Prop) (hn : (es.toList.map (·.born)).Nodup) (hold : ∀ e ∈ es.toList, e.born < cl) (hk : ∀ e ∈ es.toList, e.key = keyV (keyOfE e))
    (hBm : h[Bm]? = some (.cells [.map (some b)].toArray 63 (0, 0))) (hJb : ∀ ss hh, J ss hh → hh[b]? = some (.map es cl))
    (hJx : ∀ ss hh hh', J ss hh → hh.size ≤ hh'.size → (∀ j, j < hh.size → (j < h.size ∨ ∀ o s c0, hh[j]? ≠ some (.mapIter o s c0 cl)) → hh'[j]? = hh[j]?) → J ss hh')
    (hY : ∀ ss x hh, J ss hh → ss.length < es.size → ∀ w : World, w.heap = hh → ∃ fn tmps A B, (Instr.yield lp #[keyV x]).run Try.prog w = .ok (.round lp fn tmps A B) w ∧
      RoundIn Fence.wide 0 Try.prog lp fn tmps A B w fun e w' => e = .returned (.bool true) ∧ Rest w w' ∧ J (ss ++ [x]) w'.heap ∧ hh.size ≤ w'.heap.size ∧ ∀ (k : Nat) o, hh[k]? = some o → o.isWalk = true → w'.heap[k]? = some o)
    (h0 : J [] h) :
    CH Try.prog 63 #[.func (.yield lp) #[] #[], .pointer (some ⟨Bm, 0, none⟩)] h fun _ h' => ∃ ss : List Dg, ss.Perm (es.toList.map keyOfE) ∧ J ss h' := by
  refine CH.of_body Try.func63 rfl rfl rfl ?_
  intro f hf
  have p0 : f 0 = .func (.yield lp) #[] #[] := by rw [hf]; exact fr0_at rfl
  have p1 : f 1 = .pointer (some ⟨Bm, 0, none⟩) := by rw [hf]; exact fr0_at rfl
  -- region 0
  repeat refine HW.seq ?_
  refine HW.region ?_
  refine HL.still (Runs.load Try.underlying63 rfl p1 (by rw [cellH_of hBm]; rfl)) ?_
  intro u4 e4
  refine HL.one (HO.rangeD e4 (hJb _ _ h0) fun h1 w1 => ?_)
  intro u5 e5
  refine HL.nil ?_
  repeat refine HW.seq ?_
  refine HW.block ?_
  refine HW.loop (fun m f u => ∃ (seen : Array Nat) (sl : List MapEntry), m = (Go.leftOf es seen).size ∧ f 0 = .func (.yield lp) #[] #[] ∧ f 5 = .pointer (some ⟨h.size, 0, none⟩) ∧ u[h.size]? = some (.mapIter (some b) cl seen cl) ∧ seen.toList = sl.map (·.born) ∧ sl.Nodup ∧ (∀ e ∈ sl, e ∈ es.toList) ∧ sl.length + m ≤ es.size ∧ J (sl.map keyOfE) u) _
    ⟨#[], [], rfl, p0, e5, w1.new, rfl, List.nodup_nil, fun _ h => (by cases h), (by unfold Go.leftOf; rw [List.length_nil, Nat.zero_add]; exact Array.size_filter_le), hJx _ _ _ h0 (by rw [w1.size]; omega) fun j hj _ => w1.old j hj⟩ ?_
  clear e4 e5
  rintro m f u ⟨seen, sl, hm, f0, f5, hit, hseen, hnd, hsub, hlen, hJ⟩
  have hub := hJb _ _ hJ
  subst hm
  repeat refine HW.seq ?_
  refine HW.region ?_
  refine HL.one (HO.nextD f5 hit hub hold (Nat.le_refl _) (fun hz => ?_) fun e he h2 w2 => ?_)
  · intro u6 e6
    refine HL.still (v := .bool false) (Runs.extr e6 rfl) ?_
    intro u7 e7
    refine HL.nil ?_
    repeat refine HW.seq ?_
    refine HW.no e7 ?_
    refine HW.exitHere ?_
    exact RT.zero rfl ⟨_, (left_perm hz hseen hnd hsub hn).map _, hJ⟩
  · intro u6 e6
    refine HL.still (v := .bool true) (Runs.extr e6 rfl) ?_
    intro u7 e7
    refine HL.nil ?_
    obtain ⟨hem, hsn⟩ := mem_left he
    repeat refine HW.seq ?_
    refine HW.yes e7 ?_
    refine HW.skip ?_
    repeat refine HW.seq ?_
    refine HW.block ?_
    have z2 := w2.size
    have hit2 := w2.new
    have hJ2 := hJx _ _ h2 hJ (by omega) fun j hj hno => w2.old j fun e => (by
      rcases hno with q | q
      · omega
      · exact q (some b) cl seen (by rw [e]; exact hit))
    -- region 2
    repeat refine HW.seq ?_
    refine HW.region ?_
    refine HL.still (Runs.entryD f5 hit2 (hJb _ _ hJ2) hem hn) ?_
    intro u8 e8
    refine HL.still (v := keyV (keyOfE e)) (Runs.extr e8 (by rw [← hk e hem]; rfl)) ?_
    intro u9 e9
    refine HL.one (HO.alloc zr31 ?_)
    intro h3 w3
    intro u3 e3
    refine HL.zero (HO.storeAll sz31 e3 e9 (one_map B8 (fun _ => rfl) _) w3.new (encD_len (keyOfE e)) (by simp) ?_)
    intro h4 w4
    refine HL.nil ?_
    have z3 := w3.size
    have z4 := w4.size
    have hJ4 := hJx _ _ h4 hJ2 (by omega) fun j hj _ => (w4.old j (by omega)).trans (w3.old j hj)
    have hit4 := w4.keep (w3.keep hit2) (by have := lt_of_some hit; omega)
    repeat refine HW.seq ?_
    refine HW.regionI ?_
    refine HLi.still (loose_wide _) (Runs.move f0) ?_
    intro u10 e10
    refine HLi.still (loose_wide _) (Runs.loadAgg Try.underlying31 rfl sz31 e3 (encD_len (keyOfE e)) (load_blk w4.new)) ?_
    intro u11 e11
    refine HLi.yield (loose_wide _) e10 e11 (fun w hw => ?_)
    obtain ⟨fn, tmps, A, B, y1, y2⟩ := hY _ (keyOfE e) _ hJ4 (by
      have := left_shrinks es seen e he
      rw [List.length_map]
      omega) w hw
    refine ⟨fn, tmps, A, B, y1, y2.mono fun e' w' ⟨q1, q2, q3, q4, q5⟩ => ⟨_, q1, q2, ?_⟩⟩
    refine HLi.still (loose_wide _) (Runs.notb (t := true) rfl rfl) ?_
    intro u13 e13
    refine HLi.nil ?_
    repeat refine HW.seq ?_
    refine HW.no e13 ?_
    refine HW.skip ?_
    have hsh := left_shrinks es seen e he
    refine ⟨(Go.leftOf es (seen.push e.born)).size, hsh, seen.push e.born, sl ++ [e], rfl, f0, f5, q5 _ _ hit4 rfl, ?_, ?_, ?_, ?_, ?_⟩
    · rw [Array.toList_push, hseen, List.map_append]; rfl
    · rw [List.nodup_append]
      refine ⟨hnd, by simp, fun a ha c hc hac => ?_⟩
      have hce : c = e := by simpa using hc
      have : e.born ∈ seen.toList := by rw [hseen]; exact List.mem_map.2 ⟨a, ha, by rw [hac, hce]⟩
      rw [Array.contains_iff_mem.2 (by simpa using this)] at hsn
      cases hsn
    · intro e' he'
      rcases List.mem_append.1 he' with q | q
      · exact hsub e' q
      · have : e' = e := by simpa using q
        rw [this]; exact hem
    · rw [List.length_append]
      simp only [List.length_cons, List.length_nil]
      omega
    · rw [List.map_append]
      exact q3
end Go.Proofs.Ytklelhfgbjpifaa
/-! slices.AppendSeq, slices.Collect, slices.SortedFunc, maps.Keys; store.Keys. -/
namespace Go.Proofs.Ytklelhfgbjpifaa
set_option linter.unnecessarySimpa false
set_option linter.unusedSimpArgs false
set_option linter.unusedVariables false
open Go.RowKit
theorem GrA.oldD {base : Nat} {h h' : Heap} {a : Option Addr} {cap : Nat} {l : List Dg} (k : GrA h h' a) (y : Ds h base a cap l) {j : Nat} (hj : j < base) (hs : j < h.size) : h'[j]? = h[j]? :=
  Gr.old k j hs (fun e => by have := (y.1.lt j (by cases a <;> exact e.symm)).1; omega)
theorem Ds.notWalk {h : Heap} {base : Nat} {a : Option Addr} {cap : Nat} {l : List Dg} (x : Ds h base a cap l) {k : Nat} {o : Obj} (hk : h[k]? = some o) (hw : o.isWalk = true) : some k ≠ (Value.slice a 0 0).ownBlock := by
  rcases x.blk with ⟨rfl, _⟩ | ⟨g, rfl, _, _⟩
  · intro e; cases e
  · intro e
    obtain ⟨cur, h1, _⟩ := x.blkAt
    have : k = g := by cases e; rfl
    subst this
    rw [h1] at hk
    cases hk
    cases hw
theorem Ds.ne {h : Heap} {base : Nat} {a : Option Addr} {cap : Nat} {l : List Dg} (x : Ds h base a cap l) {k : Nat} {o : Obj} (hk : h[k]? = some o) (hw : ∀ c fr, o ≠ .cells c 31 fr) : ∀ g, (Value.slice a l.length cap).ownBlock = some g → g ≠ k := by
  intro g hg e
  rcases x.blk with ⟨rfl, _⟩ | ⟨g', rfl, _, _⟩
  · cases hg
  · obtain ⟨cur, h1, _⟩ := x.blkAt
    have : g' = g := by cases hg; rfl
    subst this
    subst e
    rw [h1] at hk
    cases hk
    exact hw _ _ rfl
theorem Ds.keep {h h' : Heap} {base : Nat} {a : Option Addr} {cap : Nat} {l : List Dg} (x : Ds h base a cap l) (k : ∀ g, (Value.slice a l.length cap).ownBlock = some g → h'[g]? = h[g]?) : Ds h' base a cap l := ⟨x.1.keep k, x.2⟩
theorem rangeFunc_of {P : Program} {g : Operand} {ps : Array Tmp} {A B : Code} {Q : Exit → Act → World → Prop} {a : Act} {w : World} {fk : FuncId} {lb : Array Value} (hev : a.eval g = .func (.func fk) #[] lb) (hent : ∀ args w, (callFunc fk args).run P w = .ok (.enter fk args) w)
    (h : ∀ (rc : Loop), rc.state = .ready → rc.pending = none → rc.tmps = a.tmps → rc.params = ps → rc.assign = A → rc.body = B → Calls P fk (#[.func (.yield (w.heap.size + 1)) #[] #[]] ++ lb) ((w.alloc (.deferred (some []))).alloc (.loop rc))
      (rangePost Fence.wide 0 P (w.heap.size + 1) Q { a with defers := { target := .collected w.heap.size, args := #[] } :: a.defers })) : (Code.rangeFunc g ps A B).wpIn Fence.wide 0 P Q a w := by
  refine wpIn_rangeFunc fun fn _ => ?_
  have h1 : (resolve a.eval (rangeCall g (w.heap.size + 1)) 0).run P ((w.alloc (.deferred (some []))).alloc (.loop { state := .ready, pending := none, fn, tmps := a.tmps, params := ps, assign := A, body := B, defers := w.heap.size })) =
      .ok { target := .fn (.func fk) lb, args := #[.func (.yield (w.heap.size + 1)) #[] #[]] } ((w.alloc (.deferred (some []))).alloc (.loop { state := .ready, pending := none, fn, tmps := a.tmps, params := ps, assign := A, body := B, defers := w.heap.size })) := by
    simp [resolve, rangeCall, hev, Deferred.ofValue]
    rfl
  exact ⟨_, _, _, _, _, fk, _, _, run_enterLoop_outer _ _ _ _ _, h1, fun _ _ => trivial, hent _ _, fun e => (by cases e), callsIn_wide.2 (h _ rfl rfl rfl rfl rfl rfl)⟩
set_option maxRecDepth 10000 in
theorem appendSeq_ch (h : Heap) (b Bm : Nat) (L : List (Dg × Value)) (hM : Mp h b L) (hBm : h[Bm]? = some (.cells [.map (some b)].toArray 63 (0, 0))) (hl : L.length ≤ 1000000) :
    CH Try.prog 69 #[.slice none 0 0, .func (.func 63) #[] #[.pointer (some ⟨Bm, 0, none⟩)]] h fun v h' => ∃ a c ss, v = .slice a ss.length c ∧ Ds h' h.size a c ss ∧ ss.Perm (L.map (·.1)) ∧ Ext h h' := by
  obtain ⟨es, cl, hes, hmap, hnd, hbn, hold⟩ := hM
  obtain ⟨hkm, hkk⟩ := keyOfE_map hmap
  have hsz : es.size = L.length := by have := congrArg List.length hmap; simpa using this
  have hbl := lt_of_some hes
  have hBl := lt_of_some hBm
  intro w hw
  have ent : ∀ args w, (callFunc 63 args).run Try.prog w = .ok (.enter 63 args) w := enters_of Try.func63 (by kernel_rfl) rfl
  refine (callsIn_wide (n := 0)).1 (callsIn_of_wp_marks Try.func69 rfl trivial ?_ rfl)
  have hrep : RepD [] 13 (fr0 #[.slice none 0 0, .func (.func 63) #[] #[.pointer (some ⟨Bm, 0, none⟩)]] 13) { tmps := #[.slice none 0 0, .func (.func 63) #[] #[.pointer (some ⟨Bm, 0, none⟩)]] ++ Array.replicate (Try.f69.ntmps - 2) undef, defers := [] } := ⟨rfl, rfl, fun _ => rfl⟩
  have p1 : fr0 #[.slice none 0 0, .func (.func 63) #[] #[.pointer (some ⟨Bm, 0, none⟩)]] 13 1 = .func (.func 63) #[] #[.pointer (some ⟨Bm, 0, none⟩)] := fr0_at rfl
  refine wpIn_seq (HWi.use (HWi.region (N := fun f' h' => f' 2 = .pointer (some ⟨h.size, 0, none⟩) ∧ f' 1 = .func (.func 63) #[] #[.pointer (some ⟨Bm, 0, none⟩)] ∧ Nw h h' (.cells [.slice none 0 0].toArray 41 (0, 0))) ?_) hrep (Rest.refl w) hw ?_)
  · refine HLi.one (loose_wide _) (HO.box (v := .slice none 0 0) (fr0_at rfl) fun h1 w1 => ?_)
    intro u2 e2
    refine HLi.still (loose_wide _) (Runs.assign rfl) ?_
    intro u4 e4
    exact HLi.nil ⟨e2, p1, w1⟩
  intro a1 w1 f1 r1 s1 ⟨g2, g1, n1⟩
  refine wpIn_seq (wpIn_seq (HWi.use (HWi.region (N := fun f' h' => f' 2 = .pointer (some ⟨h.size, 0, none⟩) ∧ f' 6 = .func (.func 63) #[] #[.pointer (some ⟨Bm, 0, none⟩)] ∧ h' = w1.heap) ?_) r1 s1 rfl ?_))
  · refine HLi.still (loose_wide _) (Runs.move g1) ?_
    intro u6 e6
    exact HLi.nil ⟨g2, e6, rfl⟩
  intro a2 w2 f2 r2 s2 ⟨k2, k6, hh2⟩
  have z1 : w2.heap.size = h.size + 1 := by rw [hh2]; exact n1.size
  refine wpIn_block (rangeFunc_of (by rw [r2.eval]; exact k6) ent fun rc c1 c2 c3 c4 c5 c6 => ?_)
  rw [z1]
  obtain ⟨W3, hW3⟩ : ∃ W3, (w2.alloc (.deferred (some []))).alloc (.loop rc) = W3 := ⟨_, rfl⟩
  have n3 : Nw w2.heap (w2.alloc (.deferred (some []))).heap (.deferred (some [])) := Nw.push _ _
  have n4 : Nw (w2.alloc (.deferred (some []))).heap W3.heap (.loop rc) := by rw [← hW3]; exact Nw.push _ _
  have rest3 : Rest w W3 := by rw [← hW3]; exact ⟨s2.os, s2.tape, s2.output⟩
  rw [hW3]
  clear hW3
  have z3 : (w2.alloc (.deferred (some []))).heap.size = h.size + 2 := by rw [n3.size, z1]
  have z4 : W3.heap.size = h.size + 3 := by rw [n4.size, z3]
  have n1' : Nw h w2.heap (.cells [.slice none 0 0].toArray 41 (0, 0)) := by rw [hh2]; exact n1
  have B3 : Bel h.size h W3.heap := (n1'.ext.ext n3.ext (Nat.le_refl _)).ext n4.ext (Nat.le_refl _)
  have hbox3 : W3.heap[h.size]? = some (.cells [.slice none 0 0].toArray 41 (0, 0)) := n4.keep (n3.keep n1'.new)
  have hdef3 : W3.heap[h.size + 1]? = some (.deferred (some [])) := n4.keep (by have := n3.new; rwa [z1] at this)
  have hloop3 : W3.heap[h.size + 2]? = some (.loop rc) := by have := n4.new; rwa [z3] at this
  obtain ⟨J, hJ⟩ : ∃ J : List Dg → Heap → Prop, J = fun ss hh => (∃ a c, hh[h.size]? = some (.cells [.slice a ss.length c].toArray 41 (0, 0)) ∧ Ds hh (h.size + 3) a c ss) ∧ hh[h.size + 2]? = some (.loop rc) ∧ hh[h.size + 1]? = some (.deferred (some [])) ∧ Bel h.size h hh := ⟨_, rfl⟩
  have eargs : (#[.func (.yield (h.size + 1 + 1)) #[] #[]] ++ #[.pointer (some ⟨Bm, 0, none⟩)] : Array Value) = #[.func (.yield (h.size + 2)) #[] #[], .pointer (some ⟨Bm, 0, none⟩)] := rfl
  rw [eargs]
  refine Calls.mono (seq_ch W3.heap (h.size + 2) b Bm es cl J hbn hold hkk (B3.keep hBm hBl) ?_ ?_ ?_ ?_ W3 rfl) ?_
  · intro ss hh hj
    rw [hJ] at hj
    exact hj.2.2.2.keep hes hbl
  · intro ss hh hh' hj hz hold'
    rw [hJ] at hj ⊢
    obtain ⟨⟨a, c, j1, j2⟩, j3, j4, j5⟩ := hj
    refine ⟨⟨a, c, (hold' _ (lt_of_some j1) (.inl (by omega))).trans j1, j2.keep fun g hg => ?_⟩, (hold' _ (lt_of_some j3) (.inl (by omega))).trans j3, (hold' _ (lt_of_some j4) (.inl (by omega))).trans j4, ⟨Nat.le_trans j5.size hz, fun j hj' => (hold' j (Nat.lt_of_lt_of_le hj' j5.size) (.inl (by omega))).trans (j5.old j hj')⟩⟩
    exact hold' g (j2.1.lt g hg).2 (.inr fun o s c0 q => j2.ne q (fun _ _ e => by cases e) g hg rfl)
  · intro ss x hh hj hlt w hw
    rw [hJ] at hj
    obtain ⟨⟨a, c, j1, j2⟩, j3, j4, j5⟩ := hj
    have hlp : w.heap[h.size + 2]? = some (.loop rc) := by rw [hw]; exact j3
    refine ⟨rc.fn, a2.tmps.setIfInBounds 7 (keyV x), rc.assign, rc.body, ?_, ?_⟩
    · have := run_yield (P := Try.prog) (args := #[keyV x]) hlp (by rw [c4]; rfl)
      rw [c3, c4] at this
      simpa using this
    · have hrep7 : RepD [] 13 (upd f2 7 (keyV x)) { tmps := a2.tmps.setIfInBounds 7 (keyV x), defers := [] } := by
        have q := r2.put 7 (by decide) (keyV x)
        exact ⟨rfl, q.size, q.slot⟩
      have hhs := j5.size
      have hlp3 := lt_of_some j3
      refine (round_of (P := Try.prog) (Kf := fun h3 => J (ss ++ [x]) h3 ∧ hh.size ≤ h3.size ∧ ∀ (k : Nat) o, hh[k]? = some o → o.isWalk = true → h3[k]? = some o)
        (NA := fun f1 h1 => f1 5 = .pointer (some ⟨hh.size, 0, none⟩) ∧ f1 2 = .pointer (some ⟨h.size, 0, none⟩) ∧ h1[hh.size]? = some (.cells (encD x).toArray 31 (0, 0)) ∧ Ext hh h1) hw hrep7 ?_ ?_).mono fun e w' ⟨q1, q2, q3⟩ => ⟨q1, q2, q3.1, q3.2.1, q3.2.2⟩
      · rw [c5]
        refine HWi.region ?_
        refine HLi.one (loose_round _ _) (HO.alloc zr31 fun h1 w1 => ?_)
        intro u5 e5
        refine HLi.zero (loose_round _ _) (HO.storeAll (cs := encD x) sz31 e5 rfl (encD_one x) w1.new (encD_len x) (by simp) fun h2 w2 => ?_)
        exact HLi.nil ⟨e5, k2, w2.new, w1.ext.wr w2 (Nat.le_refl _)⟩
      · intro f1 h1 ⟨g5, g2, gx, hE⟩
        refine ⟨rc, hE.keepE j3, c1, fun h1' W => ?_⟩
        rw [c6]
        refine HWi.block (HWi.region ?_)
        have zE := hE.size
        have zW := W.size
        have box1 := W.keep (hE.keepE j1) (by omega)
        have gx' := W.keep gx (by omega)
        have lp1 := W.new
        have df1 := W.keep (hE.keepE j4) (by omega)
        have D1 := (j2.ext hE).wr W (by omega)
        refine HLi.still (loose_round _ _) (Runs.load Try.underlying41 rfl g2 (by rw [cellH_of box1]; rfl)) ?_
        intro u8 e8
        refine HLi.still (loose_round _ _) (Runs.loadAgg Try.underlying31 rfl sz31 g5 (encD_len x) (load_blk gx')) ?_
        intro u9 e9
        refine HLi.one (loose_round _ _) (HO.dgs1 x e9 fun h2 w2 => ?_)
        intro u10 e10
        have z2 := w2.size
        have D2 := D1.ext w2.ext
        refine HLi.one (loose_round _ _) (HO.dapp e8 e10 rfl rfl D2 (dgs_block w2.new) (by simp; omega) (by omega) fun a' c' h3 D3 G3 => ?_)
        intro u11 e11
        have zG := G3.size
        have box3 := (G3.oldD D2 (by omega) (by omega)).trans (w2.keep box1)
        have lp3 := (G3.oldD D2 (by omega) (by omega)).trans (w2.keep lp1)
        have df3 := (G3.oldD D2 (by omega) (by omega)).trans (w2.keep df1)
        refine HLi.zero (loose_round _ _) (HO.store (s := 1) sz41 g2 e11 rfl box3 (by simp) rfl fun h4 w4 => ?_)
        have z4' := w4.size
        refine HLi.nil ⟨{ rc with state := .busy }, w4.keep lp3 (by omega), fun h5 w5 => ⟨?_, by rw [w5.size]; omega, fun k o hk hwk => ?_⟩⟩
        · rw [hJ]
          refine ⟨⟨a', c', w5.keep w4.new (by omega), (D3.wr w4 (by omega)).wr w5 (by omega)⟩, ?_, w5.keep (w4.keep df3 (by omega)) (by omega), ?_⟩
          · have := w5.new
            have e : ({ { rc with state := .busy } with state := .ready, pending := none } : Loop) = rc := by
              cases rc
              simp only at c1 c2
              rw [c1, c2]
            rwa [e] at this
          · have q1 : Bel h.size h h1 := j5.ext hE (Nat.le_refl _)
            have q2 := (q1.wr W (by omega)).ext w2.ext (Nat.le_refl _)
            exact ((G3.belD q2 D2 (by omega) (Nat.le_refl _)).wr w4 (Nat.le_refl _)).wr w5 (by omega)
        · have n1 : k ≠ h.size + 2 := fun e => by rw [e, j3] at hk; cases hk; cases hwk
          have n2 : k ≠ h.size := fun e => by rw [e, j1] at hk; cases hk; cases hwk
          have hk2 := w2.keep (W.keep (hE.keepE hk) n1)
          exact w5.keep (w4.keep (Gr.keep G3 hk2 (D2.notWalk hk2 hwk)) n2) n1
  · rw [hJ]
    exact ⟨⟨none, 0, hbox3, Own.nil _ _ _ _, Nat.le_refl _⟩, hloop3, hdef3, B3⟩
  · rintro e w3 ⟨v, rfl, s3, ss, hperm, hj⟩
    rw [hJ] at hj
    obtain ⟨⟨a, c, j1, j2⟩, j3, j4, j5⟩ := hj
    have hend := run_endLoop (P := Try.prog) j3 (by rw [c1]; decide)
    have hend := hend.trans (congrArg (fun p => Result.ok p _) c2)
    have W4 := wr_putObj (.loop { rc with state := .exhausted }) (lt_of_some j3)
    refine ⟨none, _, hend, ?_⟩
    have s4 : Rest w (w3.putObj (h.size + 2) (.loop { rc with state := .exhausted })) := ⟨s3.os.trans rest3.os, s3.tape.trans rest3.tape, s3.output.trans rest3.output⟩
    obtain ⟨w4, hw4⟩ : ∃ w4, w3.putObj (h.size + 2) (.loop { rc with state := .exhausted }) = w4 := ⟨_, rfl⟩
    rw [hw4] at W4 s4 ⊢
    have j1' := W4.keep j1 (by omega)
    have j4' := W4.keep j4 (by omega)
    have hr2 : RepD [{ target := .collected (h.size + 1), args := #[] }] 13 f2 { a2 with defers := { target := .collected (h.size + 1), args := #[] } :: a2.defers } := ⟨by rw [r2.defers], r2.size, r2.slot⟩
    refine wpIn_seq (HWi.use (HWi.region (N := fun f' h' => f' 4 = .slice a ss.length c ∧ h' = w4.heap) ?_) hr2 s4 rfl ?_)
    · refine HLi.still (loose_wide _) (Runs.load Try.underlying41 rfl k2 (by rw [cellH_of j1']; rfl)) ?_
      intro u12 e12
      refine HLi.still (loose_wide _) (Runs.assign e12) ?_
      intro u4 e4
      exact HLi.nil ⟨e4, rfl⟩
    · intro a5 w5 f5 r5 s5 ⟨g4, hh5⟩
      refine wpIn_ret ?_
      show LeavesInM _ _ _ _ a5.tmps _ a5.defers .returning w5
      rw [r5.defers]
      have j4'' : w5.heap[h.size + 1]? = some (.deferred (some [])) := by rw [hh5]; exact j4'
      refine ⟨by simp, .inl ⟨_, _, rfl, run_takeDeferred j4'', ?_⟩⟩
      have W6 := wr_putObj (.deferred none) (lt_of_some j4'')
      rw [hh5] at W6
      refine ⟨_, results_tmp rfl _ _ _, _, rfl, ⟨s5.os, s5.tape, s5.output⟩, a, c, ss, ?_, ?_, by rw [← hkm]; exact hperm, ?_⟩
      · have := r5.slot 4
        rw [g4] at this
        exact this
      · exact ((j2.wr W4 (by omega)).wr W6 (by omega)).low (by omega)
      · exact (j5.wr W4 (by omega)).wr W6 (by omega)
end Go.Proofs.Ytklelhfgbjpifaa
/-! slices.Collect, maps.Keys, slices.SortedFunc; store.Keys. -/
namespace Go.Proofs.Ytklelhfgbjpifaa
set_option linter.unnecessarySimpa false
set_option linter.unusedSimpArgs false
set_option linter.unusedVariables false
open Go.RowKit
theorem sort0_ch (h : Heap) (p : Option Addr) (cap : Nat) (fv : Value) : CH Try.prog 62 #[.slice p 0 cap, fv] h fun v h' => v = .tuple #[] ∧ h' = h :=
  CH.of_same (v := .tuple #[]) (fun w _ => Calls.mono (AnyF.slices_SortFunc_none Try.sortD p cap fv w) fun _ _ ⟨h1, h2⟩ => ⟨h1, h2.symm⟩) ⟨rfl, rfl⟩
set_option maxRecDepth 10000 in
theorem collect_ch (h : Heap) (b Bm : Nat) (L : List (Dg × Value)) (hM : Mp h b L) (hBm : h[Bm]? = some (.cells [.map (some b)].toArray 63 (0, 0))) (hl : L.length ≤ 1000000) :
    CH Try.prog 61 #[.func (.func 63) #[] #[.pointer (some ⟨Bm, 0, none⟩)]] h fun v h' => ∃ a c ss, v = .slice a ss.length c ∧ Ds h' h.size a c ss ∧ ss.Perm (L.map (·.1)) ∧ Ext h h' := by
  refine CH.of_body Try.func61 rfl rfl rfl ?_
  intro f hf
  have p0 : f 0 = .func (.func 63) #[] #[.pointer (some ⟨Bm, 0, none⟩)] := by rw [hf]; exact fr0_at rfl
  -- region 0
  repeat refine HW.seq ?_
  refine HW.region ?_
  refine HL.still (Runs.assign rfl) ?_
  intro u2 e2
  refine HL.nil ?_
  -- region 1
  repeat refine HW.seq ?_
  refine HW.region ?_
  refine HL.still (Runs.move p0) ?_
  intro u3 e3
  refine HL.one (HO.call Try.func69 bd69 nm69 (args2 rfl e3) rfl ((appendSeq_ch h b Bm L hM hBm hl).mono ?_))
  rintro _ h1 ⟨a, c, ss, rfl, D, p, X⟩
  intro u4 e4
  refine HL.still (Runs.assign e4) ?_
  intro u2 e2
  refine HL.nil ?_
  refine HW.ret ?_
  exact RT.one rfl e2 ⟨a, c, ss, rfl, D, p, X⟩
set_option maxRecDepth 10000 in
theorem keysM_ch (h : Heap) (b : Nat) : CH Try.prog 51 #[.map (some b)] h fun v h' => v = .func (.func 63) #[] #[.pointer (some ⟨h.size, 0, none⟩)] ∧ Nw h h' (.cells [.map (some b)].toArray 63 (0, 0)) := by
  refine CH.of_body Try.func51 rfl rfl rfl ?_
  intro f hf
  have p0 : f 0 = .map (some b) := by rw [hf]; exact fr0_at rfl
  -- region 0
  repeat refine HW.seq ?_
  refine HW.region ?_
  refine HL.one (HO.box p0 ?_)
  intro h1 w1
  intro u1 e1
  refine HL.still (Runs.assign rfl) ?_
  intro u2 e2
  refine HL.nil ?_
  -- region 1
  repeat refine HW.seq ?_
  refine HW.region ?_
  refine HL.still (Runs.makeFuncK e1) ?_
  intro u3 e3
  refine HL.still (Runs.assign e3) ?_
  intro u2 e2
  refine HL.nil ?_
  refine HW.ret ?_
  exact RT.one rfl e2 ⟨rfl, w1⟩
set_option maxRecDepth 10000 in
theorem sorted_ch (h : Heap) (b Bm : Nat) (L : List (Dg × Value)) (hM : Mp h b L) (hBm : h[Bm]? = some (.cells [.map (some b)].toArray 63 (0, 0))) (hl : L.length ≤ 1000000) :
    CH Try.prog 50 #[.func (.func 63) #[] #[.pointer (some ⟨Bm, 0, none⟩)], .func (.func 52) #[] #[]] h fun v h' => ∃ a c ss, v = .slice a ss.length c ∧ Ds h' h.size a c ss ∧ ss.Perm (L.map (·.1)) ∧ ss.Pairwise (fun x y => lessL y.1 x.1 = false) ∧ Ext h h' := by
  refine CH.of_body Try.func50 rfl rfl rfl ?_
  intro f hf
  have p0 : f 0 = .func (.func 63) #[] #[.pointer (some ⟨Bm, 0, none⟩)] := by rw [hf]; exact fr0_at rfl
  have p1 : f 1 = .func (.func 52) #[] #[] := by rw [hf]; exact fr0_at rfl
  -- region 0
  repeat refine HW.seq ?_
  refine HW.region ?_
  refine HL.still (Runs.assign rfl) ?_
  intro u4 e4
  refine HL.nil ?_
  -- region 1
  repeat refine HW.seq ?_
  refine HW.region ?_
  refine HL.still (Runs.move p0) ?_
  intro u6 e6
  refine HL.one (HO.call Try.func61 bd61 nm61 (args1 e6) rfl ((collect_ch h b Bm L hM hBm hl).mono ?_))
  rintro _ h1 ⟨a, c, ss, rfl, D, p, X⟩
  intro u7 e7
  refine HL.still (Runs.assign e7) ?_
  intro u5 e5
  refine HL.nil ?_
  have hsl : ss.length ≤ 1000000 := by have := p.length_eq; rw [List.length_map] at this; omega
  rcases D.blk with ⟨rfl, rfl⟩ | ⟨g, rfl, hg, hgl⟩
  · skip
    -- region 2
    repeat refine HW.seq ?_
    refine HW.region ?_
    refine HL.still (Runs.move e5) ?_
    intro u8 e8
    refine HL.still (Runs.move p1) ?_
    intro u9 e9
    refine HL.one (HO.call Try.func62 bd62 nm62 (args2 e8 e9) rfl ((sort0_ch h1 none c _).mono ?_))
    rintro _ h2 ⟨rfl, rfl⟩
    intro u10 e10
    refine HL.nil ?_
    -- region 3
    repeat refine HW.seq ?_
    refine HW.region ?_
    refine HL.still (Runs.move e5) ?_
    intro u11 e11
    refine HL.still (Runs.assign e11) ?_
    intro u4 e4
    refine HL.nil ?_
    refine HW.ret ?_
    exact RT.one rfl e4 ⟨none, c, [], rfl, D, p, List.Pairwise.nil, X⟩
  · obtain ⟨cur, hb, hcl, hct⟩ := D.blkAt
    skip
    -- region 2
    repeat refine HW.seq ?_
    refine HW.region ?_
    refine HL.still (Runs.move e5) ?_
    intro u8 e8
    refine HL.still (Runs.move p1) ?_
    intro u9 e9
    refine HL.one (HO.call Try.func62 bd62 nm62 (args2 e8 e9) rfl ((sort_ch h1 g c _ ss cur 31 rfl hb hct (by omega)).mono ?_))
    rintro _ h2 ⟨rfl, l', pl, sl, hb2, X2⟩
    intro u10 e10
    refine HL.nil ?_
    have hll := pl.length_eq
    -- region 3
    repeat refine HW.seq ?_
    refine HW.region ?_
    refine HL.still (Runs.move e5) ?_
    intro u11 e11
    refine HL.still (Runs.assign e11) ?_
    intro u4 e4
    refine HL.nil ?_
    refine HW.ret ?_
    refine RT.one rfl e4 ⟨some ⟨g, 0, none⟩, c, l', by rw [hll], ?_, pl.trans p, sl, bel_of_exb X X2 (Nat.le_refl _) hg⟩
    have hD2 := D.2
    have hfl := fl_len l'
    exact Ds.of_blk hb2 (by rw [List.length_append, hfl, List.length_drop, hcl, hll]; omega) (by rw [List.take_append_of_le_length (by rw [hfl]; omega), List.take_of_length_le (by rw [hfl]; omega)]) hg (by rw [hll]; exact hD2) D.capLe
set_option maxRecDepth 10000 in
/-- Keys: all digests, in order. -/
theorem keysS_ch {F : Nat → Prop} (h : Heap) (s b : Nat) (room : Int) (M : List (Dg × List UInt8)) (hS : Sto F h s b room M) (hl : M.length ≤ 1000000) : CH Try.prog 29 #[.pointer (some ⟨s, 0, none⟩)] h fun v h' => ∃ a c ss, v = .slice a ss.length c ∧ Ds h' h.size a c ss ∧ ss.Perm (M.map (·.1)) ∧ ss.Pairwise (fun x y => lessL y.1 x.1 = false) ∧ Ext h h' := by
  obtain ⟨E, rfl, h2, h3, h4, h5⟩ := hS
  refine CH.of_body Try.func29 rfl rfl rfl ?_
  intro f hf
  have p0 : f 0 = .pointer (some ⟨s, 0, none⟩) := by rw [hf]; exact fr0_at rfl
  have ek : (E.map valOf).map (·.1) = (E.map blobOf).map (·.1) := by rw [List.map_map, List.map_map]; rfl
  rw [List.length_map] at hl
  -- region 0
  repeat refine HW.seq ?_
  refine HW.region ?_
  refine HL.still (Runs.assign rfl) ?_
  intro u2 e2
  refine HL.nil ?_
  -- region 1
  repeat refine HW.seq ?_
  refine HW.region ?_
  refine HL.still (Runs.move p0) ?_
  intro u3 e3
  refine HL.still (Runs.nilc e3) ?_
  intro u4 e4
  refine HL.still (Runs.fld (o' := 0) Try.underlying65 rfl sz63 (by decide) e4 (by rfl)) ?_
  intro u5 e5
  refine HL.still (Runs.load Try.underlying63 rfl e5 (by rw [cellH_of h2]; rfl)) ?_
  intro u6 e6
  refine HL.one (HO.call Try.func51 bd51 nm51 (args1 e6) rfl ((keysM_ch h b).mono ?_))
  rintro _ h1 ⟨rfl, w1⟩
  intro u7 e7
  refine HL.one (HO.call Try.func50 bd50 nm50 (args2 e7 rfl) rfl ((sorted_ch h1 b h.size (E.map valOf) (h3.keep (w1.old b h3.lt)) w1.new (by rw [List.length_map]; exact hl)).mono ?_))
  rintro _ h8 ⟨a, c, ss, rfl, D, p, sp, X⟩
  intro u8 e8
  refine HL.still (Runs.assign e8) ?_
  intro u2 e2
  refine HL.nil ?_
  refine HW.ret ?_
  exact RT.one rfl e2 ⟨a, c, ss, rfl, D.low (by rw [w1.size]; omega), by rw [← ek]; exact p, sp, w1.ext.ext X (Nat.le_refl _)⟩
end Go.Proofs.Ytklelhfgbjpifaa
/-! maps.Clone; store.Copy. -/
namespace Go.Proofs.Ytklelhfgbjpifaa
set_option linter.unnecessarySimpa false
set_option linter.unusedSimpArgs false
set_option linter.unusedVariables false
open Go.RowKit
section
variable {ρ : Operand → Value} {h : Heap} {d : Option Tmp} {ty : TypeId} {pos : String} {af : Array Edge} {gd : Option (Nat × Bool)} {K : Value → Heap → Prop} {x y : Operand}
theorem Runs.eqNilMap {b : Nat} (hx : ρ x = .map (some b)) (hy : ρ y = .map none) : Runs Try.prog ⟨d, .binOp .eql 63 x y 63, ty, pos, af, gd⟩ ρ h (.bool false) := fun w _ => by
  have h1 : (eqGuard .eql 63 x y (.map (some b)) (.map none)).run Try.prog w = .ok () w := by
    unfold eqGuard
    simp
  have h2 := run_eql_map_nil_sl (P := Try.prog) w 63 31 29 (some b) und63
  simp only [execOp, hx, hy, Sem.run_bind, h1, Result.andThen_ok, h2]
  rfl
theorem Runs.mkIface {v : Value} (hx : ρ x = v) : Runs Try.prog ⟨d, .makeInterface 63 x, ty, pos, af, gd⟩ ρ h (.iface 63 v) := fun w _ => by
  simp [execOp, Instr.makeInterface, hx, Sem.run_bind]
theorem Runs.asMap {v : Value} (hx : ρ x = .iface 63 v) : Runs Try.prog ⟨d, .typeAssert x 20 63 false, ty, pos, af, gd⟩ ρ h v := fun w _ => by
  have h1 := run_typeAssert_map_sl (P := Try.prog) w 63 20 31 29 v und63
  simp only [execOp, hx, Sem.run_bind, h1]
  rfl
theorem nx68 : (Try.f68.name == "runtime.NumGoroutine") = false := by kernel_rfl
theorem bx68 : Try.f68.body.isNone = true := by kernel_rfl
theorem HO.mapsClone {b : Nat} {es : Array MapEntry} {cl : Nat} (hx : ρ x = .iface 63 (.map (some b))) (hb : h[b]? = some (.map es cl)) (k : ∀ h', Nw h h' (.map es cl) → K (.iface 63 (.map (some h.size))) h') (hf : ρ (.func 68) = .func (.func 68) #[] #[]) : HO Try.prog ⟨d, .call { callee := .value (.func 68), args := #[x], argTypes := #[20] }, ty, pos, af, gd⟩ ρ h K := by
  intro w hw
  subst hw
  have h1 := run_callFunc_extern (P := Try.prog) (e := Extern.MapsClone.clone) Try.func68 nx68 bx68 (by kernel_rfl) (by kernel_rfl) #[.iface 63 (.map (some b))] w
  rw [run_maps_clone_sl w 63 hb] at h1
  simp only [Result.andThen_ok] at h1
  have : (execOp ρ ⟨d, .call { callee := .value (.func 68), args := #[x], argTypes := #[20] }, ty, pos, af, gd⟩).run Try.prog w = .ok (.value (.iface 63 (.map (some w.heap.size)))) (w.alloc (.map es cl)) := by
    simp [execOp, resolve, hf, Deferred.ofValue, invoke, Sem.run_bind, hx, h1]
  rw [this]
  refine ⟨⟨rfl, rfl, rfl⟩, ?_⟩
  rw [heap_alloc]
  exact k _ (Nw.push _ _)
theorem run_buildSt3 (b : Nat) (r u : Int) (w : World) : (Instr.build 65 #[(0, .map (some b)), (1, I64 r), (2, I64 u)]).run Try.prog w = .ok (.agg [.map (some b), I64 r, I64 u].toArray) w := by kernel_rfl
theorem Runs.buildSt3 {o0 o1 o2 : Operand} (b : Nat) (r u : Int) (e0 : ρ o0 = .map (some b)) (e1 : ρ o1 = I64 r) (e2 : ρ o2 = I64 u) : Runs Try.prog ⟨d, .build 65 #[(0, o0), (1, o1), (2, o2)], ty, pos, af, gd⟩ ρ h (.agg [.map (some b), I64 r, I64 u].toArray) :=
  Runs.build (fun w => by
    have q : (#[(0, o0), (1, o1), (2, o2)] : Array (Nat × Operand)).map (fun (i, x) => (i, ρ x)) = #[(0, .map (some b)), (1, I64 r), (2, I64 u)] := by simp [e0, e1, e2]
    rw [q]
    exact run_buildSt3 b r u w)
end
set_option maxRecDepth 10000 in
theorem cloneM_ch (h : Heap) (b : Nat) (es : Array MapEntry) (cl : Nat) (hb : h[b]? = some (.map es cl)) : CH Try.prog 55 #[.map (some b)] h fun v h' => v = .map (some h.size) ∧ Nw h h' (.map es cl) := by
  refine CH.of_body Try.func55 rfl rfl rfl ?_
  intro f hf
  have p0 : f 0 = .map (some b) := by rw [hf]; exact fr0_at rfl
  -- region 0
  repeat refine HW.seq ?_
  refine HW.region ?_
  refine HL.still (Runs.assign rfl) ?_
  intro u2 e2
  refine HL.nil ?_
  -- region 1
  repeat refine HW.seq ?_
  refine HW.region ?_
  refine HL.still (Runs.move p0) ?_
  intro u3 e3
  refine HL.still (Runs.eqNilMap e3 rfl) ?_
  intro u4 e4
  refine HL.nil ?_
  refine HW.no e4 ?_
  refine HW.skip ?_
  -- region 3
  repeat refine HW.seq ?_
  refine HW.region ?_
  refine HL.still (Runs.move p0) ?_
  intro u5 e5
  refine HL.still (Runs.mkIface e5) ?_
  intro u6 e6
  refine HL.one (HO.mapsClone e6 hb (fun h7 w7 => ?_) rfl)
  intro u7 e7
  refine HL.still (Runs.asMap e7) ?_
  intro u8 e8
  refine HL.still (Runs.assign e8) ?_
  intro u2 e2
  refine HL.nil ?_
  refine HW.ret ?_
  exact RT.one rfl e2 ⟨rfl, w7⟩
set_option maxRecDepth 10000 in
theorem copyS_ch {F : Nat → Prop} (h : Heap) (s b : Nat) (room : Int) (M : List (Dg × List UInt8)) (hS : Sto F h s b room M) : CH Try.prog 32 #[.pointer (some ⟨s, 0, none⟩)] h fun v h' => ∃ s' b', v = .pointer (some ⟨s', 0, none⟩) ∧ h.size ≤ s' ∧ h.size ≤ b' ∧ Ext h h' ∧ Sto (fun j => F j ∧ j ≠ s ∧ j ≠ b ∨ h.size ≤ j) h' s' b' room M := by
  obtain ⟨E, rfl, h2, h3, ⟨h4, h6, h7⟩, h5⟩ := hS
  obtain ⟨es, cl, hes, hmp⟩ := h3
  refine CH.of_body Try.func32 rfl rfl rfl ?_
  intro f hf
  have p0 : f 0 = .pointer (some ⟨s, 0, none⟩) := by rw [hf]; exact fr0_at rfl
  -- region 0
  repeat refine HW.seq ?_
  refine HW.region ?_
  refine HL.still (Runs.assign rfl) ?_
  intro u2 e2
  refine HL.nil ?_
  have hrf : ∀ a : Heap, Ext a a := fun _ => Bel.refl _ _
  obtain ⟨u, hu⟩ : ∃ u : Int, u = (tot (E.map blobOf) : Int) := ⟨_, rfl⟩
  rw [← hu] at h2
  repeat refine HW.seq ?_
  refine HW.grow #[0, 1, 3, 7, 15, 0, 32, 96, 224, 0, 512, 1536, 3584, 8191, 16383, 32767] (fun a b => Ext a b) mixed (by kernel_rfl) hrf (fun _ _ _ x y => Bel.ext x y (Nat.le_refl _)) ?_
  refine HM.still hrf (fun f hh K => Runs.move ((K.keep (by kernel_rfl)).trans p0)) ?_
  refine HM.still hrf (fun f hh K => Runs.nilc (K.at 0 3 rfl rfl)) ?_
  refine HM.still hrf (fun f hh K => Runs.fld (o' := 0) Try.underlying65 rfl sz63 (by decide) (K.at 1 4 rfl rfl) (by rfl)) ?_
  refine HM.still hrf (fun f hh K => Runs.load Try.underlying63 rfl (K.at 2 5 rfl rfl) (by rw [cellH_of (Bel.keepE K.grown h2)]; rfl)) ?_
  refine HM.one (fun v hh => ∃ b', v = .map (some b') ∧ h.size ≤ b' ∧ hh[b']? = some (.map es cl)) (fun v u u' x ⟨b', q1, q2, q3⟩ => ⟨b', q1, q2, Bel.keepE x q3⟩) (fun f hh K => HO.call Try.func55 bd55 nm55 (args1 (K.at 3 6 rfl rfl)) rfl ((cloneM_ch hh b es cl (Bel.keepE K.grown hes)).mono fun _ _ ⟨q1, q2⟩ => ⟨q2.ext, hh.size, q1, K.grown.size, q2.new⟩)) ?_
  refine HM.still hrf (fun f hh K => Runs.move ((K.keep (by kernel_rfl)).trans p0)) ?_
  refine HM.still hrf (fun f hh K => Runs.nilc (K.at 5 8 rfl rfl)) ?_
  refine HM.still hrf (fun f hh K => Runs.fld (o' := 1) Try.underlying65 rfl sz3 (by decide) (K.at 6 9 rfl rfl) (by rfl)) ?_
  refine HM.still hrf (fun f hh K => Runs.load (v := I64 room) Try.underlying3 rfl (K.at 7 10 rfl rfl) (by rw [cellH_of (Bel.keepE K.grown h2)]; rfl)) ?_
  refine HM.still hrf (fun f hh K => Runs.move ((K.keep (by kernel_rfl)).trans p0)) ?_
  refine HM.still hrf (fun f hh K => Runs.nilc (K.at 9 12 rfl rfl)) ?_
  refine HM.still hrf (fun f hh K => Runs.fld (o' := 2) Try.underlying65 rfl sz3 (by decide) (K.at 10 13 rfl rfl) (by rfl)) ?_
  refine HM.still hrf (fun f hh K => Runs.load (v := I64 u) Try.underlying3 rfl (K.at 11 14 rfl rfl) (by rw [cellH_of (Bel.keepE K.grown h2)]; rfl)) ?_
  refine HM.one (fun v hh => ∃ b', v = .agg [.map (some b'), I64 room, I64 u].toArray ∧ h.size ≤ b' ∧ hh[b']? = some (.map es cl)) (fun v u u' x ⟨b', q1, q2, q3⟩ => ⟨b', q1, q2, Bel.keepE x q3⟩) (fun f hh K => by
    obtain ⟨b', q1, q2, q3⟩ := K.at 4 7 rfl rfl
    exact HO.of_runs (Runs.buildSt3 b' room u q1 (K.at 8 11 rfl rfl) (K.at 12 15 rfl rfl)) ⟨Bel.refl _ _, b', rfl, q2, q3⟩) ?_
  refine HM.one (fun v hh => ∃ s' b', v = .pointer (some ⟨s', 0, none⟩) ∧ h.size ≤ s' ∧ h.size ≤ b' ∧ hh[b']? = some (.map es cl) ∧ hh[s']? = some (.cells [.map (some b'), I64 room, I64 u].toArray 65 (0, 0))) (fun v u u' x ⟨s', b', q1, q2, q3, q4, q5⟩ => ⟨s', b', q1, q2, q3, Bel.keepE x q4, Bel.keepE x q5⟩) (fun f hh K => by
    obtain ⟨b', q1, q2, q3⟩ := K.at 13 16 rfl rfl
    exact HO.box q1 fun h' w => ⟨w.ext, hh.size, b', rfl, K.grown.size, q2, w.keep q3, w.new⟩) ?_
  refine HM.one (fun v hh => ∃ s' b', v = .pointer (some ⟨s', 0, none⟩) ∧ h.size ≤ s' ∧ h.size ≤ b' ∧ hh[b']? = some (.map es cl) ∧ hh[s']? = some (.cells [.map (some b'), I64 room, I64 u].toArray 65 (0, 0))) (fun v u u' x ⟨s', b', q1, q2, q3, q4, q5⟩ => ⟨s', b', q1, q2, q3, Bel.keepE x q4, Bel.keepE x q5⟩) (fun f hh K => HO.of_runs (Runs.assign rfl) ⟨Bel.refl _ _, K.at 14 17 rfl rfl⟩) ?_
  intro f' h' hR V O
  obtain ⟨s', b', q1, q2, q3, q4, q5⟩ := last_at V 15 2 rfl
  refine HW.ret ?_
  refine RT.one rfl q1 ⟨s', b', rfl, q2, q3, hR, E, rfl, by rw [← hu]; exact q5, ⟨es, cl, q4, hmp⟩, ⟨fun e => ?_, .inr q2, .inr q3⟩, fun e he => ?_⟩
  · rw [e, q4] at q5
    cases q5
  · obtain ⟨a, c, y1, y2, y3, y4⟩ := h5 e he
    refine ⟨a, c, y1, y2.ext hR, y3, fun sb so q => ?_⟩
    obtain ⟨n1, n2, n3, n4⟩ := y4 sb so q
    exact ⟨by omega, by omega, Nat.lt_of_lt_of_le n3 hR.size, .inl ⟨n4, n1, n2⟩⟩
end Go.Proofs.Ytklelhfgbjpifaa
