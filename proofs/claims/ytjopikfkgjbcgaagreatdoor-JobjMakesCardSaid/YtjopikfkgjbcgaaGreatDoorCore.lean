/- A small logic of Go code over frames that are functions and over heaps alone: its rules, proved once from the kit's own 'Code.wp', 'wpList', 'Calls'. -/
import Derived.WalkKit
import Derived.Still
import Derived.StillTail
import Derived.Deep.Quiet
import Derived.Deep.LoopGhost
namespace Go.Proofs.YtjopikfkgjbcgaaGreatDoor
set_option linter.unnecessarySimpa false
open Go.RowKit
set_option linter.unusedSimpArgs false
set_option linter.unusedVariables false
/-- A frame's slots. -/
abbrev St := Nat → Value
abbrev Heap := Array Obj
@[reducible] def upd (f : St) (d : Nat) (v : Value) : St := fun j => if j = d then v else f j
theorem upd_eq (f : St) (d : Nat) (v : Value) : upd f d v d = v := by simp [upd]
theorem upd_ne (f : St) (d j : Nat) (v : Value) (h : j ≠ d) : upd f d v j = f j := by
  simp [upd, h]
/-- A slot written, or none. -/
@[reducible] def updo (f : St) (d : Option Nat) (v : Value) : St := match d with | some d => upd f d v | none => f
/-- What an operand holds. -/
@[reducible] def ev (f : St) : Operand → Value
  | .tmp t => f t
  | .const v => v
  | .global g => .pointer (some ⟨g, 0, none⟩)
  | .func k => .func (.func k) #[] #[]
/-- The frame 'a' of n slots holds what 'f' says. -/
structure Rep (n : Nat) (f : St) (a : Act) : Prop where
  defers : a.defers = []
  size : a.tmps.size = n
  slot : ∀ i, a.tmps.getD i undef = f i
theorem Rep.eval {n : Nat} {f : St} {a : Act} (h : Rep n f a) : a.eval = ev f := by
  funext x; cases x with
  | tmp t => exact h.slot t
  | _ => rfl
theorem Rep.put {n : Nat} {f : St} {a : Act} (h : Rep n f a) (d : Nat) (hd : d < n) (v : Value) : Rep n (upd f d v) (a.put (some d) v) := by
  refine ⟨h.defers, by simp [Act.put, h.size], fun i => ?_⟩
  by_cases e : i = d
  · subst e
    have : i < a.tmps.size := by rw [h.size]; exact hd
    rw [upd_eq]; simp [Act.put, this]
  · rw [upd_ne _ _ _ _ e, ← h.slot i]
    simp only [Act.put, Array.getD_eq_getD_getElem?, Array.getElem?_setIfInBounds]
    rw [if_neg (Ne.symm e)]
/-- A destination lies in the frame. -/
@[reducible] def okDst (n : Nat) : Option Nat → Bool | some d => Nat.blt d n | none => true
theorem Rep.puto {n : Nat} {f : St} {a : Act} (h : Rep n f a) (d : Option Nat) (hd : okDst n d = true) (v : Value) : Rep n (updo f d v) (a.put d v) := by
  cases d with
  | none => exact h
  | some d => exact h.put d (by simpa [okDst, Nat.blt_eq] using hd) v
/-- All of a world but its heap and the number of its draws is as it was. -/
structure Rest (w w' : World) : Prop where
  os : w'.os = w.os
  tape : w'.tape = w.tape
  output : w'.output = w.output
theorem Rest.refl (w : World) : Rest w w := ⟨rfl, rfl, rfl⟩
theorem Rest.trans {a b c : World} (h : Rest a b) (k : Rest b c) : Rest a c := ⟨k.os.trans h.os, k.tape.trans h.tape, k.output.trans h.output⟩
/-- A call, told of heaps: it returns a value. -/
def CH (P : Program) (fn : FuncId) (args : Array Value) (h : Heap) (K : Value → Heap → Prop) : Prop :=
  ∀ w : World, w.heap = h → Calls P fn args w fun e w' => ∃ v, e = .returned v ∧ Rest w w' ∧ K v w'.heap
theorem CH.mono {P : Program} {fn : FuncId} {args : Array Value} {h : Heap} {K K' : Value → Heap → Prop} (c : CH P fn args h K) (k : ∀ v h', K v h' → K' v h') : CH P fn args h K' :=
  fun w hw => (c w hw).mono fun _ _ ⟨v, he, hr, hk⟩ => ⟨v, he, hr, k _ _ hk⟩
theorem CH.of_same {P : Program} {fn : FuncId} {args : Array Value} {h : Heap} {K : Value → Heap → Prop} {v : Value} (c : ∀ w : World, w.heap = h → Calls P fn args w fun e w' => e = .returned v ∧ w = w') (k : K v h) : CH P fn args h K :=
  fun w hw => (c w hw).mono fun _ _ ⟨he, e⟩ => ⟨v, he, by subst e; exact ⟨Rest.refl _, hw ▸ k⟩⟩
/-- What one operation comes to. -/
def Out (P : Program) (w : World) (K : Value → Heap → Prop) : Result Next → Prop
  | .ok (.value v) w' => Rest w w' ∧ K v w'.heap
  | .ok .skip w' => Rest w w' ∧ K undef w'.heap
  | .ok (.enter fn args) w' => Rest w w' ∧ CH P fn args w'.heap K
  | _ => False
/-- One operation over operands 'ρ', in whatever world of this heap. -/
def HO (P : Program) (o : Oper) (ρ : Operand → Value) (h : Heap) (K : Value → Heap → Prop) : Prop := ∀ w : World, w.heap = h → Out P w K ((execOp ρ o).run P w)
/-- An operation that leaves the world as it is. -/
def Runs (P : Program) (o : Oper) (ρ : Operand → Value) (h : Heap) (v : Value) : Prop := ∀ w : World, w.heap = h → (execOp ρ o).run P w = .ok (.value v) w
/-- What a list of operations must come to. -/
def LQ (n : Nat) (w : World) (K : St → Heap → Prop) : Exit → Act → World → Prop := fun e a' w' => e = .normal ∧ ∃ f', Rep n f' a' ∧ Rest w w' ∧ K f' w'.heap
/-- A list of operations, in the order of the text. -/
def HL (P : Program) (n : Nat) (ops : Array Oper) (l : List Oper) (K : St → Heap → Prop) (f : St) (h : Heap) : Prop :=
  ∀ (a : Act) (w0 w : World), Rep n f a → Rest w0 w → w.heap = h → wpList P ops (LQ n w0 K) l a w
/-- A list of operations none of which turns the world. -/
def HS (P : Program) (n : Nat) (ops : Array Oper) (l : List Oper) (K : St → Prop) (f : St) (h : Heap) : Prop :=
  ∀ (a : Act) (w : World), Rep n f a → w.heap = h → wpStill P ops w (fun a' => ∃ f', Rep n f' a' ∧ K f') l a
section
variable {P : Program} {n : Nat} {ops : Array Oper} {l : List Oper} {f : St} {h : Heap}
theorem HL.nil {K : St → Heap → Prop} (k : K f h) : HL P n ops [] K f h := fun _ _ _ ha hr hw => ⟨rfl, f, ha, hr, hw ▸ k⟩
theorem HS.nil {K : St → Prop} (k : K f) : HS P n ops [] K f h := fun _ _ ha _ => ⟨f, ha, k⟩
theorem HL.step {K : St → Heap → Prop} {o : Oper} (hg : o.guard = none) (hd : okDst n o.dst = true) (ho : HO P o (ev f) h fun v h' => HL P n ops l K (updo f o.dst v) h') : HL P n ops (o :: l) K f h := by
  intro a w0 w ha hr hw
  have h1 := ho w hw
  rw [← ha.eval] at h1
  refine wpList_plain hg fun KK hK => ?_
  unfold Oper.wp
  generalize (execOp a.eval o).run P w = r at h1
  cases r with
  | halt x w' => simp [Out] at h1
  | ok nx w' =>
    cases nx with
    | value v => exact hK _ _ (h1.2 _ w0 _ (ha.puto _ hd v) (hr.trans h1.1) rfl)
    | skip => exact hK _ _ (h1.2 _ w0 _ (ha.puto _ hd undef) (hr.trans h1.1) rfl)
    | enter fn args =>
      simp only [Oper.upon]
      refine (h1.2 w' rfl).mono fun e w'' ⟨v, he, hr2, hk⟩ => ?_
      subst he
      exact hK _ _ (hk _ w0 _ (ha.puto _ hd v) (hr.trans (h1.1.trans hr2)) rfl)
    | _ => simp [Out] at h1
theorem HO.mono {o : Oper} {ρ : Operand → Value} {K K' : Value → Heap → Prop} (ho : HO P o ρ h K) (k : ∀ v h', K v h' → K' v h') : HO P o ρ h K' := by
  intro w hw
  have h1 := ho w hw
  generalize (execOp ρ o).run P w = r at h1
  cases r with
  | halt x w' => simp [Out] at h1
  | ok nx w' =>
    cases nx with
    | value v => exact ⟨h1.1, k _ _ h1.2⟩
    | skip => exact ⟨h1.1, k _ _ h1.2⟩
    | enter fn args => exact ⟨h1.1, h1.2.mono fun v h' => k v h'⟩
    | _ => simp [Out] at h1
theorem HO.of_runs {o : Oper} {ρ : Operand → Value} {v : Value} {K : Value → Heap → Prop} (r : Runs P o ρ h v) (k : K v h) : HO P o ρ h K := by
  intro w hw
  rw [r w hw]
  exact ⟨Rest.refl _, hw ▸ k⟩
section ops
variable {d : Nat} {oq : Op} {ty : TypeId} {pos : String} {af : Array Edge}
theorem HL.one {K : St → Heap → Prop} (ho : HO P ⟨some d, oq, ty, pos, af, none⟩ (ev f) h fun v h' => ∀ u, u = v → HL P n ops l K (upd f d u) h') (hd : okDst n (some d) = true := by rfl) : HL P n ops (⟨some d, oq, ty, pos, af, none⟩ :: l) K f h :=
  HL.step rfl hd (HO.mono ho fun _ _ k => k _ rfl)
theorem HL.zero {K : St → Heap → Prop} (ho : HO P ⟨none, oq, ty, pos, af, none⟩ (ev f) h fun _ h' => HL P n ops l K f h') : HL P n ops (⟨none, oq, ty, pos, af, none⟩ :: l) K f h :=
  HL.step rfl rfl ho
theorem HL.still {K : St → Heap → Prop} {v : Value} (r : Runs P ⟨some d, oq, ty, pos, af, none⟩ (ev f) h v) (k : ∀ u, u = v → HL P n ops l K (upd f d u) h) (hd : okDst n (some d) = true := by rfl) : HL P n ops (⟨some d, oq, ty, pos, af, none⟩ :: l) K f h :=
  HL.one (HO.of_runs r k) hd
theorem HS.step {K : St → Prop} {v : Value} (r : Runs P ⟨some d, oq, ty, pos, af, none⟩ (ev f) h v) (hd : okDst n (some d) = true) (k : HS P n ops l K (upd f d v) h) : HS P n ops (⟨some d, oq, ty, pos, af, none⟩ :: l) K f h := by
  intro a w ha hw
  have h1 := r w hw
  rw [← ha.eval] at h1
  refine wpStill_step fun KK hK => ?_
  rw [if_pos (by simp [Region.wanted])]
  unfold Oper.still
  rw [h1]
  exact ⟨rfl, hK _ (k _ w (ha.puto (some d) hd v) hw)⟩
theorem HS.still {K : St → Prop} {v : Value} (r : Runs P ⟨some d, oq, ty, pos, af, none⟩ (ev f) h v) (k : ∀ u, u = v → HS P n ops l K (upd f d u) h) (hd : okDst n (some d) = true := by rfl) : HS P n ops (⟨some d, oq, ty, pos, af, none⟩ :: l) K f h :=
  HS.step r hd (k _ rfl)
/-- A call of a Go function that leaves the world as it is, in such a list. -/
theorem HS.call {K : St → Prop} {v : Value} {fn : FuncId} {args : Array Value} (r : ∀ w : World, w.heap = h → (execOp (ev f) ⟨some d, oq, ty, pos, af, none⟩).run P w = .ok (.enter fn args) w)
    (c : ∀ w : World, w.heap = h → Calls P fn args w fun e w' => e = .returned v ∧ w = w')
    (k : ∀ u, u = v → HS P n ops l K (upd f d u) h) (hd : okDst n (some d) = true := by rfl) : HS P n ops (⟨some d, oq, ty, pos, af, none⟩ :: l) K f h := by
  intro a w ha hw
  have h1 := r w hw
  rw [← ha.eval] at h1
  refine wpStill_step fun KK hK => ?_
  rw [if_pos (by simp [Region.wanted])]
  unfold Oper.still
  rw [h1]
  exact ⟨rfl, v, (c w hw).mono fun e w' ⟨h2, h3⟩ => ⟨h2, h3.symm⟩, hK _ (k _ rfl _ w (ha.puto (some d) hd v) hw)⟩
end ops
/-- An operation under a guard that says no. -/
theorem wanted_eq {a : Act} (ha : Rep n f a) {o : Oper} {j : Nat} {want : Bool} {d : Nat} {oj : Oper} {b : Bool} (hg : o.guard = some (j, want)) (hj : ops[j]? = some oj) (hdj : oj.dst = some d) (hdn : Nat.blt d n = true) (hb : f d = .bool b) :
    Region.wanted o (yielded ops a.tmps) = (b == want) := by
  have h1 : a.tmps[d]? = some (.bool b) := by
    have h2 := ha.slot d
    have hl : d < a.tmps.size := by rw [ha.size]; simpa [Nat.blt_eq] using hdn
    simp [Array.getD, hl, hb] at h2
    simp [hl, h2]
  unfold Region.wanted
  rw [hg]
  simp only [yielded, hj, Option.bind_some, hdj, h1]
  cases b <;> cases want <;> rfl
end
theorem Oper.upon_mono' {P : Program} {o : Oper} {a : Act} {K K' : Act → World → Prop} {Q Q' : Exit → Act → World → Prop} (hK : ∀ a w, K a w → K' a w) (hQ : ∀ e a w, Q e a w → Q' e a w) {r : Result Next} (hh : o.upon P a K Q r) : o.upon P a K' Q' r := by
  cases r with
  | ok nx w =>
    cases nx <;> simp only [Oper.upon] at hh ⊢ <;> try exact hK _ _ hh
    case enter fn args =>
      refine hh.mono fun e w' he => ?_
      cases e with
      | returned v => exact hK _ _ he
      | panicked c => exact hQ _ _ _ he
      | outgrown => obtain ⟨a, w, q⟩ := he; exact ⟨a, w, hQ _ _ _ q⟩
    case row row args => exact hh.mono fun v w' he => hK _ _ he
  | halt x w =>
    cases x <;> simp only [Oper.upon] at hh ⊢
    exact hQ _ _ _ hh
theorem wpList_mono' {P : Program} {ops : Array Oper} {Q Q' : Exit → Act → World → Prop} (hQ : ∀ e a w, Q e a w → Q' e a w) : ∀ {l : List Oper} {a : Act} {w : World}, wpList P ops Q l a w → wpList P ops Q' l a w
  | [], _, _, h => hQ _ _ _ h
  | o :: l, a, w, h => by
    unfold wpList at h ⊢
    split
    · rename_i hw
      rw [if_pos hw] at h
      rcases h with h | ⟨h1, a', w', h2⟩
      · exact .inl (Oper.upon_mono' (fun a w => wpList_mono' hQ) hQ h)
      · exact .inr ⟨h1, a', w', hQ _ _ _ h2⟩
    · rename_i hw
      rw [if_neg hw] at h
      exact wpList_mono' hQ h
theorem wpStill_mono' {P : Program} {ops : Array Oper} {w : World} {Q Q' : Act → Prop} (hQ : ∀ a, Q a → Q' a) : ∀ {l : List Oper} {a : Act}, wpStill P ops w Q l a → wpStill P ops w Q' l a
  | [], _, h => hQ _ h
  | o :: l, a, h => by
    unfold wpStill at h ⊢
    split
    · rename_i hw; rw [if_pos hw] at h; exact Oper.still_mono (fun a => wpStill_mono' hQ) h
    · rename_i hw; rw [if_neg hw] at h; exact wpStill_mono' hQ h
/-- A piece of code: N: what holds behind it, X: at an exit to a block, R: at a return. -/
def HW (P : Program) (n : Nat) (c : Code) (N : St → Heap → Prop) (X : Nat → St → Heap → Prop) (R : St → Heap → Prop) (f : St) (h : Heap) : Prop :=
  ∀ (a : Act) (w0 w : World), Rep n f a → Rest w0 w → w.heap = h → c.wp P (fun e a' w' => ∃ f', Rep n f' a' ∧ Rest w0 w' ∧ match e with | .normal => N f' w'.heap | .exit i => X i f' w'.heap | .ret => R f' w'.heap | _ => False) a w
section
variable {P : Program} {n : Nat} {f : St} {h : Heap} {N : St → Heap → Prop} {X : Nat → St → Heap → Prop} {R : St → Heap → Prop}
theorem HW.skip (k : N f h) : HW P n .skip N X R f h := fun _ _ _ ha hr hw => wp_skip ⟨f, ha, hr, hw ▸ k⟩
theorem HW.ret (k : R f h) : HW P n .ret N X R f h := fun _ _ _ ha hr hw => wp_ret ⟨f, ha, hr, hw ▸ k⟩
theorem HW.exit {i : Nat} (k : X i f h) : HW P n (.exit i) N X R f h := fun _ _ _ ha hr hw => wp_exit ⟨f, ha, hr, hw ▸ k⟩
theorem HW.seq {x y : Code} (k : HW P n x (fun f h => HW P n y N X R f h) X R f h) : HW P n (.seq x y) N X R f h := by
  intro a w0 w ha hr hw
  refine wp_seq (wp_mono (k a w0 w ha hr hw) ?_)
  rintro e a' w' ⟨f', h1, h2, h3⟩
  cases e with
  | normal => exact h3 a' w0 w' h1 h2 rfl
  | exit i => exact ⟨f', h1, h2, h3⟩
  | ret => exact ⟨f', h1, h2, h3⟩
  | _ => exact h3.elim
theorem HW.mono {c : Code} {N' : St → Heap → Prop} {X' : Nat → St → Heap → Prop} {R' : St → Heap → Prop} (k : HW P n c N X R f h) (hN : ∀ f h, N f h → N' f h) (hX : ∀ i f h, X i f h → X' i f h) (hR : ∀ f h, R f h → R' f h) : HW P n c N' X' R' f h := by
  intro a w0 w ha hr hw
  refine wp_mono (k a w0 w ha hr hw) ?_
  rintro e a' w' ⟨f', h1, h2, h3⟩
  cases e with
  | normal => exact ⟨f', h1, h2, hN _ _ h3⟩
  | exit i => exact ⟨f', h1, h2, hX _ _ _ h3⟩
  | ret => exact ⟨f', h1, h2, hR _ _ h3⟩
  | _ => exact h3.elim
theorem HW.cond {c : Operand} {x y : Code} {t : Bool} (hc : ev f c = .bool t) (ht : t = true → HW P n x N X R f h) (hf : t = false → HW P n y N X R f h) : HW P n (.cond c x y) N X R f h := by
  intro a w0 w ha hr hw
  refine wp_cond (t := t) (by rw [ha.eval]; exact hc) ?_
  cases t
  · exact hf rfl a w0 w ha hr hw
  · exact ht rfl a w0 w ha hr hw
theorem HW.yes {c : Operand} {x y : Code} (hc : ev f c = .bool true) (k : HW P n x N X R f h) : HW P n (.cond c x y) N X R f h := HW.cond hc (fun _ => k) (fun e => by cases e)
theorem HW.no {c : Operand} {x y : Code} (hc : ev f c = .bool false) (k : HW P n y N X R f h) : HW P n (.cond c x y) N X R f h := HW.cond hc (fun e => by cases e) (fun _ => k)
/-- A block: its own exit leads behind it. -/
def inBl (id : Nat) (N : St → Heap → Prop) (X : Nat → St → Heap → Prop) : Nat → St → Heap → Prop := fun i f h => if i = id then N f h else X i f h
theorem HW.block {id : Nat} {c : Code} (k : HW P n c N (inBl id N X) R f h) : HW P n (.block id c) N X R f h := by
  intro a w0 w ha hr hw
  refine wp_block (wp_mono (k a w0 w ha hr hw) ?_)
  rintro e a' w' ⟨f', h1, h2, h3⟩
  cases e with
  | normal => exact ⟨f', h1, h2, h3⟩
  | exit i =>
    by_cases hi : i = id
    · subst hi
      simp only [Exit.inBlock, if_true]
      simp only [inBl, if_true] at h3
      exact ⟨f', h1, h2, h3⟩
    · simp only [Exit.inBlock, hi, if_false]
      simp only [inBl, hi, if_false] at h3
      exact ⟨f', h1, h2, h3⟩
  | ret => exact ⟨f', h1, h2, h3⟩
  | _ => exact h3.elim
/-- An exit to the block at hand; to one around it. -/
theorem inBl.here {id : Nat} (k : N f h) : inBl id N X id f h := by simpa [inBl] using k
theorem inBl.out {i id : Nat} (hne : i ≠ id) (k : X i f h) : inBl id N X i f h := by simpa [inBl, hne] using k
theorem HW.exitHere {id : Nat} {N' : St → Heap → Prop} (k : N f h) : HW P n (.exit id) N' (inBl id N X) R f h := HW.exit (inBl.here k)
theorem HW.exitOut {id i : Nat} {N' : St → Heap → Prop} (k : N f h) (hne : id ≠ i := by decide) {M : St → Heap → Prop} : HW P n (.exit id) N' (inBl i M (inBl id N X)) R f h := HW.exit (inBl.out hne (inBl.here k))
/-- A loop: an invariant that bears a number, which each round lowers. -/
theorem HW.loop {c : Code} (I : Nat → St → Heap → Prop) (k0 : Nat) (h0 : I k0 f h) (round : ∀ k f h, I k f h → HW P n c (fun f' h' => ∃ k', k' < k ∧ I k' f' h') X R f h) : HW P n (.loop c) N X R f h := by
  intro a w0 w ha hr hw
  refine wp_loop_ghost (fun k a w => ∃ f, Rep n f a ∧ Rest w0 w ∧ I k f w.heap) k0 ⟨f, ha, hr, hw ▸ h0⟩ ?_
  rintro k a w ⟨f, h1, h2, h3⟩
  refine wp_mono (round k f w.heap h3 a w0 w h1 h2 rfl) ?_
  rintro e a' w' ⟨f', q1, q2, q3⟩
  cases e with
  | normal => obtain ⟨k', hk, hi⟩ := q3; exact ⟨k', hk, f', q1, q2, hi⟩
  | exit i => exact ⟨f', q1, q2, q3⟩
  | ret => exact ⟨f', q1, q2, q3⟩
  | _ => exact q3.elim
theorem HW.region {id : Nat} {l : List Oper} (k : HL P n l.toArray l N f h) : HW P n (.region id l.toArray false) N X R f h := by
  intro a w0 w ha hr hw
  refine wp_mono (wp_region_lit (k a w0 w ha hr hw)) ?_
  rintro e a' w' ⟨rfl, f', h1, h2, h3⟩
  exact ⟨f', h1, h2, h3⟩
/-- A region that draws its order, whose operations leave the world as it is. -/
theorem HW.draw {id : Nat} {l : List Oper} (hm : P.follows .mixedOrders = true) (hB : Region.lexB .any l.toArray = true) (k : HS P n l.toArray l (fun f' => N f' h) f h) : HW P n (.region id l.toArray true) N X R f h := by
  intro a w0 w ha hr hw
  refine wp_region_still_lit hm hB ?_
  have h1 := k a { w with drawn := w.drawn + 1 } ha hw
  refine wpStill_mono' ?_ h1
  rintro a' ⟨f', h1, h2⟩
  exact ⟨f', h1, hr.trans ⟨rfl, rfl, rfl⟩, hw ▸ h2⟩
/-- A region that draws its order: m operations that leave the world as it is, the others behind them. -/
theorem HW.drawTail {id : Nat} {l : List Oper} (m : Nat) (hm : P.follows .mixedOrders = true) (hB : Region.lexTailB .any l.toArray m = true)
    (k : HS P n l.toArray (l.take m) (fun f' => HL P n l.toArray (l.drop m) N f' h) f h) : HW P n (.region id l.toArray true) N X R f h := by
  intro a w0 w ha hr hw
  refine wp_region_still_tail m hm hB ?_
  have h1 := k a { w with drawn := w.drawn + 1 } ha hw
  refine wpStill_mono' ?_ h1
  rintro a' ⟨f', h1, h2⟩
  refine wpList_mono' ?_ (h2 a' w0 { w with drawn := w.drawn + 1 } h1 (hr.trans ⟨rfl, rfl, rfl⟩) hw)
  rintro e a'' w' ⟨rfl, f'', q1, q2, q3⟩
  exact ⟨f'', q1, q2, q3⟩
/-- Let go of all but some slots. -/
def Has (f : St) : List (Nat × Value) → Prop
  | [] => True
  | (i, v) :: s => f i = v ∧ Has f s
theorem HW.forget {c : Code} (s : List (Nat × Value)) (hs : Has f s) (k : ∀ f, Has f s → HW P n c N X R f h) : HW P n c N X R f h := k f hs
end
/-! ### Operations under a guard -/
section guards
variable {P : Program} {n : Nat} {ops : Array Oper} {l : List Oper} {f : St} {h : Heap} {d dg j : Nat} {oq : Op} {ty : TypeId} {pos : String} {af : Array Edge} {want : Bool} {oj : Oper}
theorem HL.oneG {K : St → Heap → Prop} (hj : ops[j]? = some oj) (hdj : oj.dst = some dg) (hb : f dg = .bool want) (ho : HO P ⟨some d, oq, ty, pos, af, some (j, want)⟩ (ev f) h fun v h' => ∀ u, u = v → HL P n ops l K (upd f d u) h')
    (hdg : Nat.blt dg n = true := by rfl) (hd : okDst n (some d) = true := by rfl) : HL P n ops (⟨some d, oq, ty, pos, af, some (j, want)⟩ :: l) K f h := by
  intro a w0 w ha hr hw
  have hwt : Region.wanted ⟨some d, oq, ty, pos, af, some (j, want)⟩ (yielded ops a.tmps) = true := by
    rw [wanted_eq ha rfl hj hdj hdg hb]; cases want <;> rfl
  have h1 := ho w hw
  rw [← ha.eval] at h1
  refine wpList_step fun KK hK => ?_
  rw [if_pos hwt]
  unfold Oper.wp
  generalize (execOp a.eval ⟨some d, oq, ty, pos, af, some (j, want)⟩).run P w = r at h1
  cases r with
  | halt x w' => simp [Out] at h1
  | ok nx w' =>
    cases nx with
    | value v => exact hK _ _ (h1.2 _ rfl _ w0 _ (ha.puto (some d) hd v) (hr.trans h1.1) rfl)
    | skip => exact hK _ _ (h1.2 _ rfl _ w0 _ (ha.puto (some d) hd undef) (hr.trans h1.1) rfl)
    | enter fn args =>
      simp only [Oper.upon]
      refine (h1.2 w' rfl).mono fun e w'' ⟨v, he, hr2, hk⟩ => ?_
      subst he
      exact hK _ _ (hk _ rfl _ w0 _ (ha.puto (some d) hd v) (hr.trans (h1.1.trans hr2)) rfl)
    | _ => simp [Out] at h1
theorem HL.stillG {K : St → Heap → Prop} {v : Value} (hj : ops[j]? = some oj) (hdj : oj.dst = some dg) (hb : f dg = .bool want) (r : Runs P ⟨some d, oq, ty, pos, af, some (j, want)⟩ (ev f) h v) (k : ∀ u, u = v → HL P n ops l K (upd f d u) h)
    (hdg : Nat.blt dg n = true := by rfl) (hd : okDst n (some d) = true := by rfl) : HL P n ops (⟨some d, oq, ty, pos, af, some (j, want)⟩ :: l) K f h :=
  HL.oneG hj hdj hb (HO.of_runs r k) hdg hd
theorem HL.skipG {K : St → Heap → Prop} (hj : ops[j]? = some oj) (hdj : oj.dst = some dg) (hb : f dg = .bool (!want)) (k : ∀ u, u = undef → HL P n ops l K (upd f d u) h)
    (hdg : Nat.blt dg n = true := by rfl) (hd : okDst n (some d) = true := by rfl) : HL P n ops (⟨some d, oq, ty, pos, af, some (j, want)⟩ :: l) K f h := by
  intro a w0 w ha hr hw
  have hwt : Region.wanted ⟨some d, oq, ty, pos, af, some (j, want)⟩ (yielded ops a.tmps) = false := by
    rw [wanted_eq ha rfl hj hdj hdg hb]; cases want <;> rfl
  exact wpList_skip hwt (k _ rfl _ w0 _ (ha.puto (some d) hd undef) hr hw)
theorem HS.stillG {K : St → Prop} {v : Value} (hj : ops[j]? = some oj) (hdj : oj.dst = some dg) (hb : f dg = .bool want) (r : Runs P ⟨some d, oq, ty, pos, af, some (j, want)⟩ (ev f) h v) (k : ∀ u, u = v → HS P n ops l K (upd f d u) h)
    (hdg : Nat.blt dg n = true := by rfl) (hd : okDst n (some d) = true := by rfl) : HS P n ops (⟨some d, oq, ty, pos, af, some (j, want)⟩ :: l) K f h := by
  intro a w ha hw
  have hwt : Region.wanted ⟨some d, oq, ty, pos, af, some (j, want)⟩ (yielded ops a.tmps) = true := by
    rw [wanted_eq ha rfl hj hdj hdg hb]; cases want <;> rfl
  have h1 := r w hw
  rw [← ha.eval] at h1
  refine wpStill_step fun KK hK => ?_
  rw [if_pos hwt]
  unfold Oper.still
  rw [h1]
  exact ⟨rfl, hK _ (k _ rfl _ w (ha.puto (some d) hd v) hw)⟩
theorem HS.skipG {K : St → Prop} (hj : ops[j]? = some oj) (hdj : oj.dst = some dg) (hb : f dg = .bool (!want)) (k : ∀ u, u = undef → HS P n ops l K (upd f d u) h)
    (hdg : Nat.blt dg n = true := by rfl) (hd : okDst n (some d) = true := by rfl) : HS P n ops (⟨some d, oq, ty, pos, af, some (j, want)⟩ :: l) K f h := by
  intro a w ha hw
  have hwt : Region.wanted ⟨some d, oq, ty, pos, af, some (j, want)⟩ (yielded ops a.tmps) = false := by
    rw [wanted_eq ha rfl hj hdj hdg hb]; cases want <;> rfl
  refine wpStill_step fun KK hK => ?_
  rw [if_neg (by rw [hwt]; decide)]
  exact hK _ (k _ rfl _ w (ha.puto (some d) hd undef) hw)
/-- Under a guard that says whatever: what comes of it is told under an 'if'. -/
theorem HS.anyG {K : St → Prop} {v : Value} {b : Bool} (hj : ops[j]? = some oj) (hdj : oj.dst = some dg) (hb : f dg = .bool b) (r : b = want → Runs P ⟨some d, oq, ty, pos, af, some (j, want)⟩ (ev f) h v) (k : ∀ u, u = (if b = want then v else undef) → HS P n ops l K (upd f d u) h)
    (hdg : Nat.blt dg n = true := by rfl) (hd : okDst n (some d) = true := by rfl) : HS P n ops (⟨some d, oq, ty, pos, af, some (j, want)⟩ :: l) K f h := by
  by_cases e : b = want
  · subst e; exact HS.stillG hj hdj hb (r rfl) (fun u hu => k u (by rw [if_pos rfl]; exact hu)) hdg hd
  · have : b = !want := by cases b <;> cases want <;> simp_all
    subst this; exact HS.skipG hj hdj hb (fun u hu => k u (by rw [if_neg e]; exact hu)) hdg hd
theorem HL.anyG {K : St → Heap → Prop} {v : Value} {b : Bool} (hj : ops[j]? = some oj) (hdj : oj.dst = some dg) (hb : f dg = .bool b) (r : b = want → Runs P ⟨some d, oq, ty, pos, af, some (j, want)⟩ (ev f) h v) (k : ∀ u, u = (if b = want then v else undef) → HL P n ops l K (upd f d u) h)
    (hdg : Nat.blt dg n = true := by rfl) (hd : okDst n (some d) = true := by rfl) : HL P n ops (⟨some d, oq, ty, pos, af, some (j, want)⟩ :: l) K f h := by
  by_cases e : b = want
  · subst e; exact HL.stillG hj hdj hb (r rfl) (fun u hu => k u (by rw [if_pos rfl]; exact hu)) hdg hd
  · have : b = !want := by cases b <;> cases want <;> simp_all
    subst this; exact HL.skipG hj hdj hb (fun u hu => k u (by rw [if_neg e]; exact hu)) hdg hd
/-- An operation whose guard was itself left out. -/
theorem HL.skipU {K : St → Heap → Prop} (hj : ops[j]? = some oj) (hdj : oj.dst = some dg) (hb : f dg = undef) (k : ∀ u, u = undef → HL P n ops l K (upd f d u) h)
    (hdg : Nat.blt dg n = true := by rfl) (hd : okDst n (some d) = true := by rfl) : HL P n ops (⟨some d, oq, ty, pos, af, some (j, want)⟩ :: l) K f h := by
  intro a w0 w ha hr hw
  have hwt : Region.wanted ⟨some d, oq, ty, pos, af, some (j, want)⟩ (yielded ops a.tmps) = false := by
    have h1 : a.tmps[dg]? = some undef := by
      have h2 := ha.slot dg
      have hl : dg < a.tmps.size := by rw [ha.size]; simpa [Nat.blt_eq] using hdg
      simp [Array.getD, hl, hb] at h2
      simp [hl, h2]
    unfold Region.wanted
    simp only [yielded, hj, Option.bind_some, hdj, h1]
    rfl
  exact wpList_skip hwt (k _ rfl _ w0 _ (ha.puto (some d) hd undef) hr hw)
theorem HS.skipU {K : St → Prop} (hj : ops[j]? = some oj) (hdj : oj.dst = some dg) (hb : f dg = undef) (k : ∀ u, u = undef → HS P n ops l K (upd f d u) h)
    (hdg : Nat.blt dg n = true := by rfl) (hd : okDst n (some d) = true := by rfl) : HS P n ops (⟨some d, oq, ty, pos, af, some (j, want)⟩ :: l) K f h := by
  intro a w ha hw
  have hwt : Region.wanted ⟨some d, oq, ty, pos, af, some (j, want)⟩ (yielded ops a.tmps) = false := by
    have h1 : a.tmps[dg]? = some undef := by
      have h2 := ha.slot dg
      have hl : dg < a.tmps.size := by rw [ha.size]; simpa [Nat.blt_eq] using hdg
      simp [Array.getD, hl, hb] at h2
      simp [hl, h2]
    unfold Region.wanted
    simp only [yielded, hj, Option.bind_some, hdj, h1]
    rfl
  refine wpStill_step fun KK hK => ?_
  rw [if_neg (by rw [hwt]; decide)]
  exact hK _ (k _ rfl _ w (ha.puto (some d) hd undef) hw)
end guards
theorem and_pick {u : Value} {b c : Bool} (e : u = (if b = true then .bool c else undef)) : (bif b then u else .bool false) = .bool (b && c) := by subst e; cases b <;> rfl
theorem or_pick {u : Value} {b c : Bool} (e : u = (if b = false then .bool c else undef)) : (bif b then .bool true else u) = .bool (b || c) := by subst e; cases b <;> rfl
/-! ### A region that draws its order, in which memory only grows: whatever order, what each operation comes to stays -/
section mono
variable (P : Program) (n : Nat) (ops : Array Oper) (bef : Array Nat) (R : Heap → Heap → Prop) (f0 : St) (h0 : Heap)
/-- Operation j stands before i in every order. -/
def pre (j i : Nat) : Bool := decide (j < i) && (bef.getD i 0).testBit j
/-- What is known when operation k comes up. -/
structure Known (Φ : Nat → Value → Heap → Prop) (k : Nat) (f : St) (h : Heap) : Prop where
  grown : R h0 h
  get : ∀ j, pre bef j k = true → ∀ o d, ops[j]? = some o → o.dst = some d → Φ j (f d) h
  old : ∀ s, (∀ j o, ops[j]? = some o → o.dst = some s → pre bef k j = true) → f s = f0 s
/-- What operation k owes. -/
def Owes (Φ : Nat → Value → Heap → Prop) (k : Nat) (o : Oper) (φ : Value → Heap → Prop) : Prop :=
  ∀ f h, Known ops bef R f0 h0 Φ k f h →
    match o.guard with
    | none => HO P o (ev f) h fun v h' => R h h' ∧ φ v h'
    | some (g, want) => ∃ og dg b, ops[g]? = some og ∧ og.dst = some dg ∧ Nat.blt dg n = true ∧ f dg = .bool b ∧ if b = want then HO P o (ev f) h fun v h' => R h h' ∧ φ v h' else φ undef h
def Stable (φ : Value → Heap → Prop) : Prop := ∀ v h h', R h h' → φ v h → φ v h'
/-- The operations one by one, in the order of the text. -/
def HM (Q : (Nat → Value → Heap → Prop) → Prop) : Nat → List Oper → (Nat → Value → Heap → Prop) → Prop
  | _, [], Φ => Q Φ
  | k, o :: l, Φ => ∃ φ, Stable R φ ∧ Owes P n ops bef R f0 h0 Φ k o φ ∧ HM Q (k + 1) l (fun i => if i = k then φ else Φ i)
/-- The check: destinations are distinct, edges lead back, and 'bef' says no more than they do. -/
def monoB : Bool :=
  (List.range ops.size).all fun i => (ops[i]?.map fun o => okDst n o.dst && (o.after.all fun e => !Region.binds .any e || decide (e.on < i)) &&
    ((List.range i).all fun j => !(bef.getD i 0).testBit j || o.after.any fun e => Region.binds .any e && (e.on == j || pre bef j e.on)) &&
    ((List.range i).all fun j => match o.dst, (ops[j]?).bind (·.dst) with | some d, some d' => d != d' | _, _ => true)).getD true
variable {P n ops bef R f0 h0}
theorem Owes.congr {Φ Φ' : Nat → Value → Heap → Prop} {k : Nat} {o : Oper} {φ : Value → Heap → Prop} (x : Owes P n ops bef R f0 h0 Φ k o φ) (h : ∀ j, j < k → Φ' j = Φ j) : Owes P n ops bef R f0 h0 Φ' k o φ := by
  intro f hh K
  refine x f hh ⟨K.grown, fun j hj o d ho hd => ?_, K.old⟩
  have hlt : j < k := by simp only [pre, Bool.and_eq_true, decide_eq_true_eq] at hj; exact hj.1
  rw [← h j hlt]
  exact K.get j hj o d ho hd
theorem HM.global {Q : (Nat → Value → Heap → Prop) → Prop} : ∀ (l : List Oper) (k : Nat) (Φ : Nat → Value → Heap → Prop), HM P n ops bef R f0 h0 Q k l Φ → ops.toList.drop k = l →
    (∀ i o, i < k → ops[i]? = some o → Stable R (Φ i) ∧ Owes P n ops bef R f0 h0 Φ i o (Φ i)) →
    ∃ Φ, Q Φ ∧ ∀ i o, ops[i]? = some o → Stable R (Φ i) ∧ Owes P n ops bef R f0 h0 Φ i o (Φ i)
  | [], k, Φ, h, hl, hp => by
    refine ⟨Φ, h, fun i o ho => hp i o ?_ ho⟩
    have h1 := (Array.getElem?_eq_some_iff.1 ho).1
    have h2 : ops.toList.length ≤ k := List.drop_eq_nil_iff.1 hl
    simp at h2
    omega
  | o :: l, k, Φ, h, hl, hp => by
    obtain ⟨φ, hs, ho, hr⟩ := h
    have hk : ops[k]? = some o := by
      have := congrArg (·[0]?) hl
      simpa using this
    refine HM.global l (k + 1) _ hr ?_ ?_
    · have := congrArg (List.drop 1) hl
      rw [List.drop_drop] at this
      simpa using this
    · intro i o' hi ho'
      by_cases hik : i = k
      · subst hik
        rw [hk] at ho'
        cases ho'
        simp only [if_true]
        exact ⟨hs, ho.congr fun j hj => by rw [if_neg (by omega)]⟩
      · have := hp i o' (by omega) ho'
        simp only [if_neg hik]
        exact ⟨this.1, this.2.congr fun j hj => by rw [if_neg (by omega)]⟩
/-- What holds between two operations. -/
structure MInv (n : Nat) (ops : Array Oper) (bef : Array Nat) (R : Heap → Heap → Prop) (f0 : St) (h0 : Heap) (w0 : World) (Φ : Nat → Value → Heap → Prop) (listed : Array Bool) (a : Act) (w : World) (f : St) : Prop where
  size : listed.size = ops.size
  rep : Rep n f a
  rest : Rest w0 w
  grown : R h0 w.heap
  closed : ∀ i, listed.getD i false = true → ∀ j, pre bef j i = true → listed.getD j false = true
  vals : ∀ i o d, ops[i]? = some o → listed.getD i false = true → o.dst = some d → Φ i (f d) w.heap
  old : ∀ s, (∀ i o, ops[i]? = some o → listed.getD i false = true → o.dst ≠ some s) → f s = f0 s
def leftOf (listed : Array Bool) (m : Nat) : Nat := ((List.range m).filter fun i => !listed.getD i false).length
theorem leftOf_set {listed : Array Bool} {m i : Nat} (hi : i < m) (hs : i < listed.size) (hu : listed.getD i false = false) : leftOf (listed.setIfInBounds i true) m + 1 = leftOf listed m := by
  induction m with
  | zero => omega
  | succ m ih =>
    unfold leftOf at *
    rw [List.range_succ, List.filter_append, List.filter_append, List.length_append, List.length_append]
    by_cases him : i = m
    · subst him
      have e1 : (List.range i).filter (fun j => !(listed.setIfInBounds i true).getD j false) = (List.range i).filter (fun j => !listed.getD j false) := by
        apply List.filter_congr
        intro j hj
        have hne : i ≠ j := by have := List.mem_range.1 hj; omega
        simp [Array.getElem?_setIfInBounds, hne]
      rw [e1]
      have e2 : (listed.setIfInBounds i true).getD i false = true := by simp [hs]
      simp only [List.filter_cons, List.filter_nil, e2, hu]
      simp
    · have := ih (by omega)
      have e2 : (listed.setIfInBounds i true).getD m false = listed.getD m false := by simp [Array.getElem?_setIfInBounds, him]
      simp only [List.filter_cons, List.filter_nil, e2]
      omega
theorem mono_spec (hB : monoB n ops bef = true) {i : Nat} {o : Oper} (hi : ops[i]? = some o) : okDst n o.dst = true ∧ (∀ e ∈ o.after, Region.binds .any e = true → e.on < i) ∧ (∀ j, pre bef j i = true → ∃ e ∈ o.after, Region.binds .any e = true ∧ (e.on = j ∨ pre bef j e.on = true)) ∧
    (∀ j o', j < i → ops[j]? = some o' → ∀ d, o.dst = some d → o'.dst ≠ some d) := by
  have hlt := (Array.getElem?_eq_some_iff.1 hi).1
  unfold monoB at hB
  have h1 := List.all_eq_true.1 hB i (List.mem_range.2 hlt)
  rw [hi] at h1
  simp only [Option.map_some, Option.getD_some, Bool.and_eq_true] at h1
  obtain ⟨⟨⟨h2, h3⟩, h4⟩, h5⟩ := h1
  refine ⟨h2, fun e he hb => ?_, fun j hj => ?_, fun j o' hj ho' d hd hd' => ?_⟩
  · have := Array.all_eq_true'.1 h3 e he
    simpa [hb] using this
  · simp only [pre, Bool.and_eq_true, decide_eq_true_eq] at hj
    have := List.all_eq_true.1 h4 j (List.mem_range.2 hj.1)
    simp only [hj.2, Bool.not_true, Bool.false_or] at this
    obtain ⟨e, he, h6⟩ := Array.any_eq_true'.1 this
    simp only [Bool.and_eq_true, Bool.or_eq_true, beq_iff_eq] at h6
    exact ⟨e, he, h6.1, h6.2⟩
  · have := List.all_eq_true.1 h5 j (List.mem_range.2 hj)
    rw [ho'] at this
    simp [hd, hd'] at this
theorem mono_any (hB : monoB n ops bef = true) (hrf : ∀ a, R a a) (htr : ∀ a b c, R a b → R b c → R a c) {Φ : Nat → Value → Heap → Prop} (hΦ : ∀ i o, ops[i]? = some o → Stable R (Φ i) ∧ Owes P n ops bef R f0 h0 Φ i o (Φ i)) {w0 : World} {Q' : Exit → Act → World → Prop}
    (hQ : ∀ listed a w f, MInv n ops bef R f0 h0 w0 Φ listed a w f → (∀ i, i < ops.size → listed.getD i false = true) → Q' .normal a w) :
    ∀ (fuel : Nat) (listed : Array Bool) (a : Act) (w : World) (f : St), MInv n ops bef R f0 h0 w0 Φ listed a w f → leftOf listed ops.size = fuel → wpAny P .any ops Q' fuel listed a w := by
  intro fuel
  induction fuel with
  | zero =>
    intro listed a w f J hl
    have hall : ∀ i, i < ops.size → listed.getD i false = true := by
      intro i hi
      have h1 : ((List.range ops.size).filter fun i => !listed.getD i false) = [] := List.length_eq_zero_iff.1 hl
      have h2 := List.filter_eq_nil_iff.1 h1 i (List.mem_range.2 hi)
      simpa using h2
    refine ⟨?_, hQ listed a w f J hall⟩
    apply List.eq_nil_iff_forall_not_mem.2
    intro i hi
    obtain ⟨h1, oi, h2, -⟩ := mem_ready.1 hi
    have hlt := (Array.getElem?_eq_some_iff.1 h2).1
    have h3 := hall i hlt
    have hls : i < listed.size := by rw [J.size]; exact hlt
    simp [hls] at h1 h3
    rw [h1] at h3
    cases h3
  | succ fuel ih =>
    intro listed a w f J hl
    refine ⟨fun hr => ?_, fun i hi => ?_⟩
    · exfalso
      have hne : ((List.range ops.size).filter fun i => !listed.getD i false) ≠ [] := by
        intro e
        unfold leftOf at hl
        rw [e] at hl
        cases hl
      obtain ⟨i, hi⟩ := List.exists_mem_of_ne_nil _ hne
      have key : ∀ m i, i ≤ m → i < ops.size → listed.getD i false = false → False := by
        intro m
        induction m with
        | zero =>
          intro i hi0 hlt hun
          have : i = 0 := by omega
          subst this
          have hls : 0 < listed.size := by rw [J.size]; exact hlt
          have ho : ops[0]? = some ops[0] := by simp [hlt]
          have : 0 ∈ Region.ready .any ops listed := mem_ready.2 ⟨by simpa [hls] using hun, _, ho, fun e he hb => absurd ((mono_spec hB ho).2.1 e he hb) (by omega)⟩
          rw [hr] at this
          cases this
        | succ m ihm =>
          intro i hi0 hlt hun
          have hls : i < listed.size := by rw [J.size]; exact hlt
          have ho : ops[i]? = some ops[i] := by simp [hlt]
          have : i ∈ Region.ready .any ops listed := mem_ready.2 ⟨by simpa [hls] using hun, _, ho, fun e he hb => by
            have hlt' := (mono_spec hB ho).2.1 e he hb
            by_cases hx : listed.getD e.on false = true
            · exact hx
            · exact (ihm e.on (by omega) (by omega) (by simpa using hx)).elim⟩
          rw [hr] at this
          cases this
      obtain ⟨h1, h2⟩ := List.mem_filter.1 hi
      exact key i i (Nat.le_refl _) (List.mem_range.1 h1) (by simpa using h2)
    · obtain ⟨hun, o, ho, hed⟩ := mem_ready.1 hi
      have hlt := (Array.getElem?_eq_some_iff.1 ho).1
      have hls : i < listed.size := by rw [J.size]; exact hlt
      have hun' : listed.getD i false = false := by simp [hls] at hun ⊢; exact hun
      obtain ⟨m1, m2, m3, m4⟩ := mono_spec hB ho
      have hpre : ∀ j, pre bef j i = true → listed.getD j false = true := by
        intro j hj
        obtain ⟨e, he, hb, h1 | h1⟩ := m3 j hj
        · rw [← h1]; exact hed e he hb
        · exact J.closed e.on (hed e he hb) j h1
      have hK : Known ops bef R f0 h0 Φ i f w.heap := by
        refine ⟨J.grown, fun j hj o' d ho' hd => J.vals j o' d ho' (hpre j hj) hd, fun s hs => J.old s fun j o' ho' hlj hd => ?_⟩
        have := J.closed j hlj i (hs j o' ho' hd)
        rw [this] at hun'
        cases hun'
      obtain ⟨hst, how⟩ := hΦ i o ho
      have how := how f w.heap hK
      have hnext : ∀ (v : Value) (w' : World), Rest w w' → R w.heap w'.heap → Φ i v w'.heap → wpAny P .any ops Q' fuel (listed.setIfInBounds i true) (a.put o.dst v) w' := by
        intro v w' hr hR hv
        have hset : ∀ j, j ≠ i → (listed.setIfInBounds i true).getD j false = listed.getD j false := fun j hj => by simp [Array.getElem?_setIfInBounds, Ne.symm hj]
        have hseti : (listed.setIfInBounds i true).getD i false = true := by simp [hls]
        refine ih _ _ _ (updo f o.dst v) ?_ (by have := leftOf_set hlt hls hun'; omega)
        refine ⟨by simp [J.size], J.rep.puto o.dst m1 v, J.rest.trans hr, htr _ _ _ J.grown hR, fun i' hi' j hj => ?_, fun i' o' d ho' hi' hd => ?_, fun s hs => ?_⟩
        · have hlj : listed.getD j false = true := by
            by_cases e : i' = i
            · rw [e] at hj; exact hpre j hj
            · rw [hset i' e] at hi'; exact J.closed i' hi' j hj
          by_cases e : j = i
          · rw [e]; exact hseti
          · rw [hset j e]; exact hlj
        · by_cases e : i' = i
          · subst e
            rw [ho] at ho'
            cases ho'
            rw [hd]
            simp only [updo, upd_eq]
            exact hv
          · rw [hset i' e] at hi'
            have h1 := (hΦ i' o' ho').1 _ _ _ hR (J.vals i' o' d ho' hi' hd)
            have hne : ∀ d', o.dst = some d' → d ≠ d' := by
              intro d' hd' e2
              subst e2
              rcases Nat.lt_or_gt_of_ne e with hl2 | hl2
              · exact m4 i' o' hl2 ho' d hd' hd
              · exact (mono_spec hB ho').2.2.2 i o hl2 ho d hd hd'
            cases hod : o.dst with
            | none => exact h1
            | some d' => simp only [updo]; rw [upd_ne _ _ _ _ (hne d' hod)]; exact h1
        · have h1 := J.old s fun i' o' ho' hi' => hs i' o' ho' (by
            by_cases e : i' = i
            · rw [e]; exact hseti
            · rw [hset i' e]; exact hi')
          have h2 := hs i o ho hseti
          cases hod : o.dst with
          | none => exact h1
          | some d' => simp only [updo]; rw [upd_ne _ _ _ _ (fun e => h2 (by rw [hod, e]))]; exact h1
      have hrun : (HO P o (ev f) w.heap fun v h' => R w.heap h' ∧ Φ i v h') → o.wp P a w (wpAny P .any ops Q' fuel (listed.setIfInBounds i true)) Q' := by
        intro hho
        have h1 := hho w rfl
        rw [← J.rep.eval] at h1
        unfold Oper.wp
        generalize (execOp a.eval o).run P w = r at h1
        cases r with
        | halt x w' => simp [Out] at h1
        | ok nx w' =>
          cases nx with
          | value v => exact hnext v w' h1.1 h1.2.1 h1.2.2
          | skip => exact hnext undef w' h1.1 h1.2.1 h1.2.2
          | enter fn args =>
            simp only [Oper.upon]
            refine (h1.2 w' rfl).mono fun e w'' ⟨v, he, hr2, hk⟩ => ?_
            subst he
            exact hnext v w'' (h1.1.trans hr2) hk.1 hk.2
          | _ => simp [Out] at h1
      unfold wpOp
      simp only [ho]
      obtain ⟨dst, op, ty, pos, af, gd⟩ := o
      cases gd with
      | none =>
        rw [if_pos (by rfl)]
        exact .inl (hrun how)
      | some gw =>
        obtain ⟨g, want⟩ := gw
        obtain ⟨og, dg, b, hg1, hg2, hg3, hg4, hg5⟩ := how
        rw [wanted_eq J.rep rfl hg1 hg2 hg3 hg4]
        by_cases hbw : b = want
        · subst hbw
          rw [if_pos (by simp)]
          rw [if_pos rfl] at hg5
          exact .inl (hrun hg5)
        · rw [if_neg (by simpa using hbw)]
          rw [if_neg hbw] at hg5
          exact hnext undef w (Rest.refl _) (hrf _) hg5
/-- A region that draws its order, in which memory only grows by R. -/
theorem HW.grow {id : Nat} {l : List Oper} {N : St → Heap → Prop} {X : Nat → St → Heap → Prop} {Rt : St → Heap → Prop} {f : St} {h : Heap} (bef : Array Nat) (R : Heap → Heap → Prop) (hm : P.follows .mixedOrders = true) (hB : monoB n l.toArray bef = true) (hrf : ∀ a, R a a) (htr : ∀ a b c, R a b → R b c → R a c)
    (k : HM P n l.toArray bef R f h (fun Φ => ∀ f' h', R h h' → (∀ (j : Nat) (o : Oper) (d : Nat), l.toArray[j]? = some o → o.dst = some d → Φ j (f' d) h') → (∀ s : Nat, (∀ (j : Nat) (o : Oper), l.toArray[j]? = some o → o.dst ≠ some s) → f' s = f s) → N f' h') 0 l (fun _ _ _ => True)) :
    HW P n (.region id l.toArray true) N X Rt f h := by
  intro a w0 w ha hr hw
  obtain ⟨Φ, hN, hΦ⟩ := HM.global l 0 _ k (by simp) (fun i o hi => by omega)
  refine wp_region_any hm (mono_any hB hrf htr hΦ (w0 := w0) ?_ _ _ _ _ f ?_ ?_)
  · intro listed a' w' f' J hall
    refine ⟨f', J.rep, J.rest, hN f' _ J.grown (fun j o d ho hd => J.vals j o d ho (hall j (Array.getElem?_eq_some_iff.1 ho).1) hd) fun s hs => J.old s fun i o ho _ => hs i o ho⟩
  · subst hw
    refine ⟨by simp, ha, hr.trans ⟨rfl, rfl, rfl⟩, hrf _, fun i hi => ?_, fun i o d _ hi => ?_, fun s _ => rfl⟩
    · exfalso
      simp [Array.getElem?_replicate] at hi
      split at hi <;> simp at hi
    · exfalso
      simp [Array.getElem?_replicate] at hi
      split at hi <;> simp at hi
  · unfold leftOf
    rw [List.filter_eq_self.2]
    · simp
    · intro i hi
      have := List.mem_range.1 hi
      simp [Array.getElem?_replicate]
      split <;> rfl
end mono
section monoRules
variable {P : Program} {n : Nat} {ops : Array Oper} {bef : Array Nat} {R : Heap → Heap → Prop} {f0 : St} {h0 : Heap} {Q : (Nat → Value → Heap → Prop) → Prop} {k : Nat} {l : List Oper} {Φ : Nat → Value → Heap → Prop}
  {d dg j : Nat} {oq : Op} {ty : TypeId} {pos : String} {af : Array Edge} {want : Bool} {oj : Oper}
theorem HM.one (φ : Value → Heap → Prop) (hst : Stable R φ) (how : ∀ f h, Known ops bef R f0 h0 Φ k f h → HO P ⟨some d, oq, ty, pos, af, none⟩ (ev f) h fun v h' => R h h' ∧ φ v h')
    (hk : HM P n ops bef R f0 h0 Q (k + 1) l (fun i => if i = k then φ else Φ i)) : HM P n ops bef R f0 h0 Q k (⟨some d, oq, ty, pos, af, none⟩ :: l) Φ := ⟨φ, hst, how, hk⟩
theorem HM.still {v : Value} (hrf : ∀ a, R a a) (r : ∀ f h, Known ops bef R f0 h0 Φ k f h → Runs P ⟨some d, oq, ty, pos, af, none⟩ (ev f) h v)
    (hk : HM P n ops bef R f0 h0 Q (k + 1) l (fun i => if i = k then (fun x _ => x = v) else Φ i)) : HM P n ops bef R f0 h0 Q k (⟨some d, oq, ty, pos, af, none⟩ :: l) Φ :=
  HM.one (fun x _ => x = v) (fun _ _ _ _ e => e) (fun f h K => HO.of_runs (r f h K) ⟨hrf _, rfl⟩) hk
theorem HM.oneG (φ : Value → Heap → Prop) (hst : Stable R φ) (hj : ops[j]? = some oj) (hdj : oj.dst = some dg) (hdg : Nat.blt dg n = true) (hg : ∀ f h, Known ops bef R f0 h0 Φ k f h → f dg = .bool want)
    (how : ∀ f h, Known ops bef R f0 h0 Φ k f h → HO P ⟨some d, oq, ty, pos, af, some (j, want)⟩ (ev f) h fun v h' => R h h' ∧ φ v h')
    (hk : HM P n ops bef R f0 h0 Q (k + 1) l (fun i => if i = k then φ else Φ i)) : HM P n ops bef R f0 h0 Q k (⟨some d, oq, ty, pos, af, some (j, want)⟩ :: l) Φ :=
  ⟨φ, hst, fun f h K => ⟨oj, dg, want, hj, hdj, hdg, hg f h K, by rw [if_pos rfl]; exact how f h K⟩, hk⟩
theorem HM.stillG {v : Value} (hrf : ∀ a, R a a) (hj : ops[j]? = some oj) (hdj : oj.dst = some dg) (hdg : Nat.blt dg n = true) (hg : ∀ f h, Known ops bef R f0 h0 Φ k f h → f dg = .bool want)
    (r : ∀ f h, Known ops bef R f0 h0 Φ k f h → Runs P ⟨some d, oq, ty, pos, af, some (j, want)⟩ (ev f) h v)
    (hk : HM P n ops bef R f0 h0 Q (k + 1) l (fun i => if i = k then (fun x _ => x = v) else Φ i)) : HM P n ops bef R f0 h0 Q k (⟨some d, oq, ty, pos, af, some (j, want)⟩ :: l) Φ :=
  HM.oneG (fun x _ => x = v) (fun _ _ _ _ e => e) hj hdj hdg hg (fun f h K => HO.of_runs (r f h K) ⟨hrf _, rfl⟩) hk
theorem HM.skipG (hj : ops[j]? = some oj) (hdj : oj.dst = some dg) (hdg : Nat.blt dg n = true) (hg : ∀ f h, Known ops bef R f0 h0 Φ k f h → f dg = .bool (!want))
    (hk : HM P n ops bef R f0 h0 Q (k + 1) l (fun i => if i = k then (fun x _ => x = undef) else Φ i)) : HM P n ops bef R f0 h0 Q k (⟨some d, oq, ty, pos, af, some (j, want)⟩ :: l) Φ :=
  ⟨fun x _ => x = undef, fun _ _ _ _ e => e, fun f h K => ⟨oj, dg, !want, hj, hdj, hdg, hg f h K, by rw [if_neg (by cases want <;> decide)]⟩, hk⟩
/-- A slot that the region does not write. -/
def notW (ops : Array Oper) (s : Nat) : Bool := ops.all fun o => match o.dst with | some d => !Nat.beq d s | none => true
theorem notW_spec {s : Nat} (h : notW ops s = true) {i : Nat} {o : Oper} (hi : ops[i]? = some o) : o.dst ≠ some s := by
  intro e
  have := Array.all_eq_true'.1 h o (Array.mem_of_getElem? hi)
  rw [e] at this
  simp at this
theorem Known.keep {f : St} {h : Heap} (K : Known ops bef R f0 h0 Φ k f h) {s : Nat} (hn : notW ops s = true) : f s = f0 s := K.old s fun j o hj hd => absurd hd (notW_spec hn hj)
/-- A slot whose writers all come later. -/
def preW (ops : Array Oper) (bef : Array Nat) (k s : Nat) : Bool := (List.range ops.size).all fun j => match (ops[j]?).bind (·.dst) with | some d => !Nat.beq d s || pre bef k j | none => true
theorem Known.keepB {f : St} {h : Heap} (K : Known ops bef R f0 h0 Φ k f h) {s : Nat} (hn : preW ops bef k s = true) : f s = f0 s := K.old s fun j o hj hd => by
  have h1 := List.all_eq_true.1 hn j (List.mem_range.2 (Array.getElem?_eq_some_iff.1 hj).1)
  rw [hj] at h1
  simpa [hd] using h1
theorem Known.at {f : St} {h : Heap} (K : Known ops bef R f0 h0 Φ k f h) (j d : Nat) (hp : pre bef j k = true) (hd : (ops[j]?).bind (·.dst) = some d) : Φ j (f d) h := by
  cases ho : ops[j]? with
  | none => rw [ho] at hd; cases hd
  | some o => rw [ho] at hd; exact K.get j hp o d ho hd
theorem last_at {f : St} {h : Heap} (V : ∀ (j : Nat) (o : Oper) (d : Nat), ops[j]? = some o → o.dst = some d → Φ j (f d) h) (j d : Nat) (hd : (ops[j]?).bind (·.dst) = some d) : Φ j (f d) h := by
  cases ho : ops[j]? with
  | none => rw [ho] at hd; cases hd
  | some o => rw [ho] at hd; exact V j o d ho hd
theorem last_keep {f : St} (O : ∀ s : Nat, (∀ (j : Nat) (o : Oper), ops[j]? = some o → o.dst ≠ some s) → f s = f0 s) {s : Nat} (hn : notW ops s = true) : f s = f0 s := O s fun _ _ hj => notW_spec hn hj
end monoRules
/-- A struct's or an array's type. -/
def isAggD (ds : TypeDesc) : Bool := match ds with | .struct _ | .array _ _ => true | _ => false
/-- What a return must come to. -/
def RT (P : Program) (F : Func) (K : Value → Heap → Prop) (f : St) (h : Heap) : Prop := ∃ v, (∀ (tmps : Array Value) (w : World), (∀ i, tmps.getD i undef = f i) → w.heap = h → (results F tmps).run P w = .ok v w) ∧ K v h
/-- The frame at a call's begin. -/
def fr0 (args : Array Value) (n : Nat) : St := fun i => (args ++ Array.replicate (n - args.size) undef).getD i undef
theorem fr0_at {args : Array Value} {n i : Nat} {v : Value} (h : args[i]? = some v) : fr0 args n i = v := by
  have hi : i < args.size := (Array.getElem?_eq_some_iff.1 h).1
  unfold fr0
  rw [Array.getD_eq_getD_getElem?, Array.getElem?_append_left hi, h]
  rfl
/-- A function's body: its contract. -/
theorem CH.of_body {P : Program} {fn : FuncId} {F : Func} {c : Code} {n : Nat} {args : Array Value} {h : Heap} {K : Value → Heap → Prop} (hf : P.funcs[fn]? = some F) (hb : F.body = some c) (hn : F.ntmps = n)
    (hsz : Nat.ble args.size n = true)
    (k : ∀ f : St, f = fr0 args n → HW P n c (fun f' h' => RT P F K f' h') (fun _ _ _ => False) (fun f' h' => RT P F K f' h') f h) :
    CH P fn args h K := by
  subst hn
  have hsz := Nat.le_of_ble_eq_true hsz
  intro w hw
  refine calls_of_wp hf hb ?_
  have h1 := k _ rfl { tmps := args ++ Array.replicate (F.ntmps - args.size) undef, defers := [] } w w
    ⟨rfl, by simp; omega, fun _ => rfl⟩ (Rest.refl _) hw
  refine wp_mono h1 ?_
  rintro e a' w' ⟨f', h1, h2, h3⟩
  cases e with
  | ret =>
    obtain ⟨v, hv, hk⟩ := h3
    exact ⟨h1.defers, v, hv _ _ h1.slot rfl, v, rfl, h2, hk⟩
  | normal =>
    obtain ⟨v, hv, hk⟩ := h3
    exact ⟨h1.defers, v, hv _ _ h1.slot rfl, v, rfl, h2, hk⟩
  | _ => exact h3.elim
section
variable {P : Program} {F : Func} {K : Value → Heap → Prop} {f : St} {h : Heap}
theorem RT.zero (hr : F.results = #[]) (k : K (.tuple #[]) h) : RT P F K f h := ⟨_, fun tmps w _ _ => results_none hr tmps P w, k⟩
theorem RT.one {t : Tmp} {v : Value} (hr : F.results = #[.tmp t]) (hv : f t = v) (k : K v h) : RT P F K f h :=
  ⟨v, fun tmps w ht _ => by rw [results_tmp hr tmps P w, ht t, hv], k⟩
theorem RT.two {t u : Tmp} {v x : Value} (hr : F.results = #[.tmp t, .tmp u]) (hv : f t = v) (hx : f u = x) (k : K (.tuple #[v, x]) h) : RT P F K f h :=
  ⟨_, fun tmps w ht _ => by rw [results_tmp2 hr tmps P w, ht t, ht u, hv, hx], k⟩
theorem RT.three {t u s : Tmp} {v x y : Value} (hr : F.results = #[.tmp t, .tmp u, .tmp s]) (hv : f t = v) (hx : f u = x) (hy : f s = y) (k : K (.tuple #[v, x, y]) h) : RT P F K f h :=
  ⟨.tuple #[v, x, y], fun tmps w ht _ => by
    have h1 := ht t; have h2 := ht u; have h3 := ht s
    simp only [Array.getD_eq_getD_getElem?] at h1 h2 h3
    simp [results, hr, h1, h2, h3, hv, hx, hy], k⟩
theorem run_loadVar_agg (w : World) {b : Nat} {t ty : TypeId} {cs : Array Value} {fr : Nat × Nat} {ds : TypeDesc} (hg : w.heap[b]? = some (.cells cs t fr)) (hu : P.underlying ty = some ds) (hd : isAggD ds = true) (hi : (P.info? ty).map (·.size) = some cs.size) :
    (loadVar ty ⟨b, 0, Option.none⟩).run P w = .ok (.agg cs) w := by
  cases ds <;> first | (simp [isAggD] at hd; done) | exact run_loadVar_row w b t ty cs fr _ hg hu rfl hi
/-- A result that lies in a cell row: an array or a struct. -/
theorem RT.cell {p : Tmp} {ty : TypeId} {ds : TypeDesc} {b : Nat} {l : List Value} {t : TypeId} {fr : Nat × Nat} (hr : F.results = #[.cell p ty]) (hp : f p = .pointer (some ⟨b, 0, none⟩)) (hb : h[b]? = some (.cells l.toArray t fr))
    (hu : P.underlying ty = some ds) (hd : isAggD ds = true) {n : Nat} (hi : (P.info? ty).map (·.size) = some n) (hn : l.length = n) (k : K (.agg l.toArray) h) : RT P F K f h :=
  ⟨.agg l.toArray, fun tmps w ht hw => by
    have h1 := ht p
    simp only [Array.getD_eq_getD_getElem?] at h1
    have h3 : (loadVar ty ⟨b, 0, none⟩).run P w = .ok (.agg l.toArray) w := run_loadVar_agg w (by rw [hw]; exact hb) hu hd (by subst hn; simpa using hi)
    simp [results, hr, h1, hp, asAddr, h3], k⟩
/-- A result in a cell row, and one in a slot. -/
theorem RT.cellTmp {p q : Tmp} {ty : TypeId} {ds : TypeDesc} {b : Nat} {l : List Value} {t : TypeId} {fr : Nat × Nat} {x : Value} (hr : F.results = #[.cell p ty, .tmp q]) (hp : f p = .pointer (some ⟨b, 0, none⟩)) (hx : f q = x) (hb : h[b]? = some (.cells l.toArray t fr))
    (hu : P.underlying ty = some ds) (hd : isAggD ds = true) {n : Nat} (hi : (P.info? ty).map (·.size) = some n) (hn : l.length = n) (k : K (.tuple #[.agg l.toArray, x]) h) : RT P F K f h :=
  ⟨.tuple #[.agg l.toArray, x], fun tmps w ht hw => by
    have h1 := ht p; have h2 := ht q
    simp only [Array.getD_eq_getD_getElem?] at h1 h2
    have h3 : (loadVar ty ⟨b, 0, none⟩).run P w = .ok (.agg l.toArray) w := run_loadVar_agg w (by rw [hw]; exact hb) hu hd (by subst hn; simpa using hi)
    simp [results, hr, h1, h2, hp, hx, asAddr, h3], k⟩
end
end Go.Proofs.YtjopikfkgjbcgaaGreatDoor
