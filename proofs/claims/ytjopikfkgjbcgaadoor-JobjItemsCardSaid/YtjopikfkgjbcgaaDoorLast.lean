/- A region that draws its order in which one operation, q, turns memory that was there, and those ahead of it only grow it; all others leave it as it is. -/
import Derived.Test.YtjopikfkgjbcgaaDoorStrs
namespace Go.Proofs.YtjopikfkgjbcgaaDoor
set_option linter.unnecessarySimpa false
set_option linter.unusedSimpArgs false
set_option linter.unusedVariables false
open Go.RowKit
section mono
variable (P : Program) (n : Nat) (ops : Array Oper) (bef : Array Nat) (R Rq : Heap → Heap → Prop) (q : Nat) (f0 : St) (h0 : Heap)
/-- What is known when operation k comes up. -/
structure Known2 (Φ : Nat → Value → Heap → Prop) (k : Nat) (f : St) (h : Heap) : Prop where
  grown : (k = q ∨ pre bef k q = true) → R h0 h
  get : ∀ j, pre bef j k = true → ∀ o d, ops[j]? = some o → o.dst = some d → Φ j (f d) h
  old : ∀ s, (∀ j o, ops[j]? = some o → o.dst = some s → pre bef k j = true) → f s = f0 s
/-- What operation k may turn. -/
def Rk (k : Nat) (h h' : Heap) : Prop := if pre bef k q = true then R h h' else if k = q then Rq h h' else h' = h
/-- What operation k owes. -/
def Owes2 (Φ : Nat → Value → Heap → Prop) (k : Nat) (o : Oper) (φ : Value → Heap → Prop) : Prop :=
  ∀ f h, Known2 ops bef R q f0 h0 Φ k f h →
    match o.guard with
    | none => HO P o (ev f) h fun v h' => Rk bef R Rq q k h h' ∧ φ v h'
    | some (g, want) => ∃ og dg b, ops[g]? = some og ∧ og.dst = some dg ∧ Nat.blt dg n = true ∧ f dg = .bool b ∧ if b = want then HO P o (ev f) h fun v h' => Rk bef R Rq q k h h' ∧ φ v h' else φ undef h
def Stable2 (k : Nat) (φ : Value → Heap → Prop) : Prop := k ≠ q → pre bef q k = false → Stable R φ ∧ Stable Rq φ
/-- The operations one by one, in the order of the text. -/
def HM2 (Q : (Nat → Value → Heap → Prop) → Prop) : Nat → List Oper → (Nat → Value → Heap → Prop) → Prop
  | _, [], Φ => Q Φ
  | k, o :: l, Φ => ∃ φ, Stable2 bef R Rq q k φ ∧ Owes2 P n ops bef R Rq q f0 h0 Φ k o φ ∧ HM2 Q (k + 1) l (fun i => if i = k then φ else Φ i)
variable {P n ops bef R Rq q f0 h0}
theorem Owes2.congr {Φ Φ' : Nat → Value → Heap → Prop} {k : Nat} {o : Oper} {φ : Value → Heap → Prop} (x : Owes2 P n ops bef R Rq q f0 h0 Φ k o φ) (h : ∀ j, j < k → Φ' j = Φ j) : Owes2 P n ops bef R Rq q f0 h0 Φ' k o φ := by
  intro f hh K
  refine x f hh ⟨K.grown, fun j hj o d ho hd => ?_, K.old⟩
  have hlt : j < k := by simp only [pre, Bool.and_eq_true, decide_eq_true_eq] at hj; exact hj.1
  rw [← h j hlt]
  exact K.get j hj o d ho hd
theorem HM2.global {Q : (Nat → Value → Heap → Prop) → Prop} : ∀ (l : List Oper) (k : Nat) (Φ : Nat → Value → Heap → Prop), HM2 P n ops bef R Rq q f0 h0 Q k l Φ → ops.toList.drop k = l →
    (∀ i o, i < k → ops[i]? = some o → Stable2 bef R Rq q i (Φ i) ∧ Owes2 P n ops bef R Rq q f0 h0 Φ i o (Φ i)) →
    ∃ Φ, Q Φ ∧ ∀ i o, ops[i]? = some o → Stable2 bef R Rq q i (Φ i) ∧ Owes2 P n ops bef R Rq q f0 h0 Φ i o (Φ i)
  | [], k, Φ, h, hl, hp => by
    refine ⟨Φ, h, fun i o ho => hp i o ?_ ho⟩
    have h1 := (Array.getElem?_eq_some_iff.1 ho).1
    have h2 : ops.toList.length ≤ k := List.drop_eq_nil_iff.1 hl
    simp at h2
    omega
  | o :: l, k, Φ, h, hl, hp => by
    obtain ⟨φ, hs, ho, hr⟩ := h
    have hk : ops[k]? = some o := by
      have := congrArg (·[0]?) hl
      simpa using this
    refine HM2.global l (k + 1) _ hr ?_ ?_
    · have := congrArg (List.drop 1) hl
      rw [List.drop_drop] at this
      simpa using this
    · intro i o' hi ho'
      by_cases hik : i = k
      · subst hik
        rw [hk] at ho'
        cases ho'
        simp only [if_true]
        exact ⟨hs, ho.congr fun j hj => by rw [if_neg (by omega)]⟩
      · have := hp i o' (by omega) ho'
        simp only [if_neg hik]
        exact ⟨this.1, this.2.congr fun j hj => by rw [if_neg (by omega)]⟩
/-- What holds between two operations. -/
structure MInv2 (n : Nat) (ops : Array Oper) (bef : Array Nat) (R : Heap → Heap → Prop) (q : Nat) (f0 : St) (h0 : Heap) (w0 : World) (Φ : Nat → Value → Heap → Prop) (listed : Array Bool) (a : Act) (w : World) (f : St) : Prop where
  size : listed.size = ops.size
  rep : Rep n f a
  rest : Rest w0 w
  grown : listed.getD q false = false → R h0 w.heap
  closed : ∀ i, listed.getD i false = true → ∀ j, pre bef j i = true → listed.getD j false = true
  vals : ∀ i o d, ops[i]? = some o → listed.getD i false = true → o.dst = some d → Φ i (f d) w.heap
  old : ∀ s, (∀ i o, ops[i]? = some o → listed.getD i false = true → o.dst ≠ some s) → f s = f0 s
  turned : listed.getD q false = true → ∃ v, Φ q v w.heap
theorem Rk.refl {k : Nat} (hrf : (∀ a, R a a) ∧ ∀ a, Rq a a) (h : Heap) : Rk bef R Rq q k h h := by
  unfold Rk
  split
  · exact hrf.1 _
  · split
    · exact hrf.2 _
    · rfl
theorem Rk.grow {k : Nat} (hp : pre bef k q = true) {h h' : Heap} (x : R h h') : Rk bef R Rq q k h h' := by unfold Rk; rw [if_pos hp]; exact x
theorem Rk.turn {h h' : Heap} (x : Rq h h') : Rk bef R Rq q q h h' := by
  unfold Rk
  rw [if_neg (by simp [pre]), if_pos rfl]
  exact x
theorem mono_any2 (hB : monoB n ops bef = true) (hrf : ∀ a, R a a) (htr : ∀ a b c, R a b → R b c → R a c) (hrq : ∀ a, Rq a a) {Φ : Nat → Value → Heap → Prop} (hΦ : ∀ i o, ops[i]? = some o → Stable2 bef R Rq q i (Φ i) ∧ Owes2 P n ops bef R Rq q f0 h0 Φ i o (Φ i)) {w0 : World} {Q' : Exit → Act → World → Prop}
    (hQ : ∀ listed a w f, MInv2 n ops bef R q f0 h0 w0 Φ listed a w f → (∀ i, i < ops.size → listed.getD i false = true) → Q' .normal a w) :
    ∀ (fuel : Nat) (listed : Array Bool) (a : Act) (w : World) (f : St), MInv2 n ops bef R q f0 h0 w0 Φ listed a w f → leftOf listed ops.size = fuel → wpAny P .any ops Q' fuel listed a w := by
  intro fuel
  induction fuel with
  | zero =>
    intro listed a w f J hl
    have hall : ∀ i, i < ops.size → listed.getD i false = true := by
      intro i hi
      have h1 : ((List.range ops.size).filter fun i => !listed.getD i false) = [] := List.length_eq_zero_iff.1 hl
      have h2 := List.filter_eq_nil_iff.1 h1 i (List.mem_range.2 hi)
      simpa using h2
    refine ⟨?_, hQ listed a w f J hall⟩
    apply List.eq_nil_iff_forall_not_mem.2
    intro i hi
    obtain ⟨h1, oi, h2, -⟩ := mem_ready.1 hi
    have hlt := (Array.getElem?_eq_some_iff.1 h2).1
    have h3 := hall i hlt
    have hls : i < listed.size := by rw [J.size]; exact hlt
    simp [hls] at h1 h3
    rw [h1] at h3
    cases h3
  | succ fuel ih =>
    intro listed a w f J hl
    refine ⟨fun hr => ?_, fun i hi => ?_⟩
    · exfalso
      have hne : ((List.range ops.size).filter fun i => !listed.getD i false) ≠ [] := by
        intro e
        unfold leftOf at hl
        rw [e] at hl
        cases hl
      obtain ⟨i, hi⟩ := List.exists_mem_of_ne_nil _ hne
      have key : ∀ m i, i ≤ m → i < ops.size → listed.getD i false = false → False := by
        intro m
        induction m with
        | zero =>
          intro i hi0 hlt hun
          have : i = 0 := by omega
          subst this
          have hls : 0 < listed.size := by rw [J.size]; exact hlt
          have ho : ops[0]? = some ops[0] := by simp [hlt]
          have : 0 ∈ Region.ready .any ops listed := mem_ready.2 ⟨by simpa [hls] using hun, _, ho, fun e he hb => absurd ((mono_spec hB ho).2.1 e he hb) (by omega)⟩
          rw [hr] at this
          cases this
        | succ m ihm =>
          intro i hi0 hlt hun
          have hls : i < listed.size := by rw [J.size]; exact hlt
          have ho : ops[i]? = some ops[i] := by simp [hlt]
          have : i ∈ Region.ready .any ops listed := mem_ready.2 ⟨by simpa [hls] using hun, _, ho, fun e he hb => by
            have hlt' := (mono_spec hB ho).2.1 e he hb
            by_cases hx : listed.getD e.on false = true
            · exact hx
            · exact (ihm e.on (by omega) (by omega) (by simpa using hx)).elim⟩
          rw [hr] at this
          cases this
      obtain ⟨h1, h2⟩ := List.mem_filter.1 hi
      exact key i i (Nat.le_refl _) (List.mem_range.1 h1) (by simpa using h2)
    · obtain ⟨hun, o, ho, hed⟩ := mem_ready.1 hi
      have hlt := (Array.getElem?_eq_some_iff.1 ho).1
      have hls : i < listed.size := by rw [J.size]; exact hlt
      have hun' : listed.getD i false = false := by simp [hls] at hun ⊢; exact hun
      obtain ⟨m1, m2, m3, m4⟩ := mono_spec hB ho
      have hpre : ∀ j, pre bef j i = true → listed.getD j false = true := by
        intro j hj
        obtain ⟨e, he, hb, h1 | h1⟩ := m3 j hj
        · rw [← h1]; exact hed e he hb
        · exact J.closed e.on (hed e he hb) j h1
      have hK : Known2 ops bef R q f0 h0 Φ i f w.heap := by
        refine ⟨fun hiq => J.grown ?_, fun j hj o' d ho' hd => J.vals j o' d ho' (hpre j hj) hd, fun s hs => J.old s fun j o' ho' hlj hd => ?_⟩
        · rcases hiq with rfl | hiq
          · exact hun'
          · cases hqq : listed.getD q false with
            | false => rfl
            | true =>
              have := J.closed q hqq i hiq
              rw [this] at hun'
              cases hun'
        · have := J.closed j hlj i (hs j o' ho' hd)
          rw [this] at hun'
          cases hun'
      obtain ⟨hst, how⟩ := hΦ i o ho
      have how := how f w.heap hK
      have hnext : ∀ (v : Value) (w' : World), Rest w w' → Rk bef R Rq q i w.heap w'.heap → Φ i v w'.heap → wpAny P .any ops Q' fuel (listed.setIfInBounds i true) (a.put o.dst v) w' := by
        intro v w' hr hR hv
        have hset : ∀ j, j ≠ i → (listed.setIfInBounds i true).getD j false = listed.getD j false := fun j hj => by simp [Array.getElem?_setIfInBounds, Ne.symm hj]
        have hseti : (listed.setIfInBounds i true).getD i false = true := by simp [hls]
        refine ih _ _ _ (updo f o.dst v) ?_ (by have := leftOf_set hlt hls hun'; omega)
        refine ⟨by simp [J.size], J.rep.puto o.dst m1 v, J.rest.trans hr, ?_, fun i' hi' j hj => ?_, fun i' o' d ho' hi' hd => ?_, fun s hs => ?_, fun hlq => ?_⟩
        · intro hlq
          have hiq : i ≠ q := by
            intro e
            rw [← e, hseti] at hlq
            cases hlq
          rw [hset q (Ne.symm hiq)] at hlq
          unfold Rk at hR
          by_cases hp : pre bef i q = true
          · rw [if_pos hp] at hR
            exact htr _ _ _ (J.grown hlq) hR
          · rw [if_neg hp, if_neg hiq] at hR
            rw [hR]
            exact J.grown hlq
        · have hlj : listed.getD j false = true := by
            by_cases e : i' = i
            · rw [e] at hj; exact hpre j hj
            · rw [hset i' e] at hi'; exact J.closed i' hi' j hj
          by_cases e : j = i
          · rw [e]; exact hseti
          · rw [hset j e]; exact hlj
        · by_cases e : i' = i
          · subst e
            rw [ho] at ho'
            cases ho'
            rw [hd]
            simp only [updo, upd_eq]
            exact hv
          · rw [hset i' e] at hi'
            have h1 : Φ i' (f d) w'.heap := by
              have h0 := J.vals i' o' d ho' hi' hd
              have hst' := (hΦ i' o' ho').1
              unfold Rk at hR
              split at hR
              · rename_i hpq
                have hne : i' ≠ q := by
                  intro e
                  rw [e] at hi'
                  have := J.closed q hi' i hpq
                  rw [this] at hun'
                  cases hun'
                have hne2 : pre bef q i' = false := by
                  cases hpp : pre bef q i' with
                  | false => rfl
                  | true =>
                    have h5 := J.closed i' hi' q hpp
                    have := J.closed q h5 i hpq
                    rw [this] at hun'
                    cases hun'
                exact (hst' hne hne2).1 _ _ _ hR h0
              · split at hR
                · rename_i hiq
                  have hne2 : pre bef q i' = false := by
                    cases hpp : pre bef q i' with
                    | false => rfl
                    | true =>
                      have h5 := J.closed i' hi' q hpp
                      rw [← hiq, hun'] at h5
                      cases h5
                  exact (hst' (fun e' => e (by rw [e', hiq])) hne2).2 _ _ _ hR h0
                · rw [hR]
                  exact h0
            have hne : ∀ d', o.dst = some d' → d ≠ d' := by
              intro d' hd' e2
              subst e2
              rcases Nat.lt_or_gt_of_ne e with hl2 | hl2
              · exact m4 i' o' hl2 ho' d hd' hd
              · exact (mono_spec hB ho').2.2.2 i o hl2 ho d hd hd'
            cases hod : o.dst with
            | none => exact h1
            | some d' => simp only [updo]; rw [upd_ne _ _ _ _ (hne d' hod)]; exact h1
        · have h1 := J.old s fun i' o' ho' hi' => hs i' o' ho' (by
            by_cases e : i' = i
            · rw [e]; exact hseti
            · rw [hset i' e]; exact hi')
          have h2 := hs i o ho hseti
          cases hod : o.dst with
          | none => exact h1
          | some d' => simp only [updo]; rw [upd_ne _ _ _ _ (fun e => h2 (by rw [hod, e]))]; exact h1
        · by_cases e : i = q
          · subst e
            exact ⟨v, hv⟩
          · rw [hset q (fun x => e x.symm)] at hlq
            obtain ⟨u, hu⟩ := J.turned hlq
            have hp : pre bef i q = false := by
              cases hpp : pre bef i q with
              | false => rfl
              | true =>
                have h5 := J.closed q hlq i hpp
                rw [hun'] at h5
                cases h5
            unfold Rk at hR
            rw [hp, if_neg (by decide), if_neg e] at hR
            rw [hR]
            exact ⟨u, hu⟩
      have hrun : (HO P o (ev f) w.heap fun v h' => Rk bef R Rq q i w.heap h' ∧ Φ i v h') → o.wp P a w (wpAny P .any ops Q' fuel (listed.setIfInBounds i true)) Q' := by
        intro hho
        have h1 := hho w rfl
        rw [← J.rep.eval] at h1
        unfold Oper.wp
        generalize (execOp a.eval o).run P w = r at h1
        cases r with
        | halt x w' => simp [Out] at h1
        | ok nx w' =>
          cases nx with
          | value v => exact hnext v w' h1.1 h1.2.1 h1.2.2
          | skip => exact hnext undef w' h1.1 h1.2.1 h1.2.2
          | enter fn args =>
            simp only [Oper.upon]
            refine (h1.2 w' rfl).mono fun e w'' ⟨v, he, hr2, hk⟩ => ?_
            subst he
            exact hnext v w'' (h1.1.trans hr2) hk.1 hk.2
          | _ => simp [Out] at h1
      unfold wpOp
      simp only [ho]
      obtain ⟨dst, op, ty, pos, af, gd⟩ := o
      cases gd with
      | none =>
        rw [if_pos (by rfl)]
        exact .inl (hrun how)
      | some gw =>
        obtain ⟨g, want⟩ := gw
        obtain ⟨og, dg, b, hg1, hg2, hg3, hg4, hg5⟩ := how
        rw [wanted_eq J.rep rfl hg1 hg2 hg3 hg4]
        by_cases hbw : b = want
        · subst hbw
          rw [if_pos (by simp)]
          rw [if_pos rfl] at hg5
          exact .inl (hrun hg5)
        · rw [if_neg (by simpa using hbw)]
          rw [if_neg hbw] at hg5
          exact hnext undef w (Rest.refl _) (Rk.refl ⟨hrf, hrq⟩ _) hg5
/-- The region. -/
theorem HW.last {id : Nat} {l : List Oper} {N : St → Heap → Prop} {X : Nat → St → Heap → Prop} {Rt : St → Heap → Prop} {f : St} {h : Heap} (bef : Array Nat) (R Rq : Heap → Heap → Prop) (q : Nat) (hm : P.follows .mixedOrders = true) (hB : monoB n l.toArray bef = true) (hrf : ∀ a, R a a) (htr : ∀ a b c, R a b → R b c → R a c) (hrq : ∀ a, Rq a a)
    (k : HM2 P n l.toArray bef R Rq q f h (fun Φ => ∀ f' h', (∀ (j : Nat) (o : Oper) (d : Nat), l.toArray[j]? = some o → o.dst = some d → Φ j (f' d) h') → (∀ s : Nat, (∀ (j : Nat) (o : Oper), l.toArray[j]? = some o → o.dst ≠ some s) → f' s = f s) → N f' h') 0 l (fun _ _ _ => True)) :
    HW P n (.region id l.toArray true) N X Rt f h := by
  intro a w0 w ha hr hw
  obtain ⟨Φ, hN, hΦ⟩ := HM2.global l 0 _ k (by simp) (fun i o hi => by omega)
  refine wp_region_any hm (mono_any2 hB hrf htr hrq hΦ (w0 := w0) ?_ _ _ _ _ f ?_ ?_)
  · intro listed a' w' f' J hall
    refine ⟨f', J.rep, J.rest, hN f' _ (fun j o d ho hd => J.vals j o d ho (hall j (Array.getElem?_eq_some_iff.1 ho).1) hd) fun s hs => J.old s fun i o ho _ => hs i o ho⟩
  · subst hw
    refine ⟨by simp, ha, hr.trans ⟨rfl, rfl, rfl⟩, fun _ => hrf _, fun i hi => ?_, fun i o d _ hi => ?_, fun s _ => rfl, fun hi => ?_⟩
    · exfalso
      simp [Array.getElem?_replicate] at hi
      split at hi <;> simp at hi
    · exfalso
      simp [Array.getElem?_replicate] at hi
      split at hi <;> simp at hi
    · exfalso
      simp [Array.getElem?_replicate] at hi
      split at hi <;> simp at hi
  · unfold leftOf
    rw [List.filter_eq_self.2]
    · simp
    · intro i hi
      have := List.mem_range.1 hi
      simp [Array.getElem?_replicate]
      split <;> rfl
/-- The region; and what the operation that turns memory has left. -/
theorem HW.lastQ {id : Nat} {l : List Oper} {N : St → Heap → Prop} {X : Nat → St → Heap → Prop} {Rt : St → Heap → Prop} {f : St} {h : Heap} (bef : Array Nat) (R Rq : Heap → Heap → Prop) (q : Nat) (hql : q < l.length) (hm : P.follows .mixedOrders = true) (hB : monoB n l.toArray bef = true) (hrf : ∀ a, R a a) (htr : ∀ a b c, R a b → R b c → R a c) (hrq : ∀ a, Rq a a)
    (k : HM2 P n l.toArray bef R Rq q f h (fun Φ => ∀ f' h', (∀ (j : Nat) (o : Oper) (d : Nat), l.toArray[j]? = some o → o.dst = some d → Φ j (f' d) h') → (∀ s : Nat, (∀ (j : Nat) (o : Oper), l.toArray[j]? = some o → o.dst ≠ some s) → f' s = f s) → (∃ v, Φ q v h') → N f' h') 0 l (fun _ _ _ => True)) :
    HW P n (.region id l.toArray true) N X Rt f h := by
  intro a w0 w ha hr hw
  obtain ⟨Φ, hN, hΦ⟩ := HM2.global l 0 _ k (by simp) (fun i o hi => by omega)
  refine wp_region_any hm (mono_any2 hB hrf htr hrq hΦ (w0 := w0) ?_ _ _ _ _ f ?_ ?_)
  · intro listed a' w' f' J hall
    refine ⟨f', J.rep, J.rest, hN f' _ (fun j o d ho hd => J.vals j o d ho (hall j (Array.getElem?_eq_some_iff.1 ho).1) hd) (fun s hs => J.old s fun i o ho _ => hs i o ho) (J.turned (hall q (by simpa using hql)))⟩
  · subst hw
    refine ⟨by simp, ha, hr.trans ⟨rfl, rfl, rfl⟩, fun _ => hrf _, fun i hi => ?_, fun i o d _ hi => ?_, fun s _ => rfl, fun hi => ?_⟩
    · exfalso
      simp [Array.getElem?_replicate] at hi
      split at hi <;> simp at hi
    · exfalso
      simp [Array.getElem?_replicate] at hi
      split at hi <;> simp at hi
    · exfalso
      simp [Array.getElem?_replicate] at hi
      split at hi <;> simp at hi
  · unfold leftOf
    rw [List.filter_eq_self.2]
    · simp
    · intro i hi
      have := List.mem_range.1 hi
      simp [Array.getElem?_replicate]
      split <;> rfl
end mono
section lastRules
variable {P : Program} {n : Nat} {ops : Array Oper} {bef : Array Nat} {R Rq : Heap → Heap → Prop} {q : Nat} {f0 : St} {h0 : Heap} {Q : (Nat → Value → Heap → Prop) → Prop} {k : Nat} {l : List Oper} {Φ : Nat → Value → Heap → Prop}
  {d dg j : Nat} {oq : Op} {ty : TypeId} {pos : String} {af : Array Edge} {want : Bool} {oj : Oper}
theorem HM2.one (φ : Value → Heap → Prop) (hst : Stable2 bef R Rq q k φ) (how : ∀ f h, Known2 ops bef R q f0 h0 Φ k f h → HO P ⟨some d, oq, ty, pos, af, none⟩ (ev f) h fun v h' => Rk bef R Rq q k h h' ∧ φ v h')
    (hk : HM2 P n ops bef R Rq q f0 h0 Q (k + 1) l (fun i => if i = k then φ else Φ i)) : HM2 P n ops bef R Rq q f0 h0 Q k (⟨some d, oq, ty, pos, af, none⟩ :: l) Φ := ⟨φ, hst, how, hk⟩
theorem HM2.oneN (φ : Value → Heap → Prop) (hst : Stable2 bef R Rq q k φ) (how : ∀ f h, Known2 ops bef R q f0 h0 Φ k f h → HO P ⟨none, oq, ty, pos, af, none⟩ (ev f) h fun v h' => Rk bef R Rq q k h h' ∧ φ v h')
    (hk : HM2 P n ops bef R Rq q f0 h0 Q (k + 1) l (fun i => if i = k then φ else Φ i)) : HM2 P n ops bef R Rq q f0 h0 Q k (⟨none, oq, ty, pos, af, none⟩ :: l) Φ := ⟨φ, hst, how, hk⟩
theorem HM2.still {v : Value} (hrf : (∀ a, R a a) ∧ ∀ a, Rq a a) (r : ∀ f h, Known2 ops bef R q f0 h0 Φ k f h → Runs P ⟨some d, oq, ty, pos, af, none⟩ (ev f) h v)
    (hk : HM2 P n ops bef R Rq q f0 h0 Q (k + 1) l (fun i => if i = k then (fun x _ => x = v) else Φ i)) : HM2 P n ops bef R Rq q f0 h0 Q k (⟨some d, oq, ty, pos, af, none⟩ :: l) Φ :=
  HM2.one (fun x _ => x = v) (fun _ _ => ⟨fun _ _ _ _ e => e, fun _ _ _ _ e => e⟩) (fun f h K => HO.of_runs (r f h K) ⟨Rk.refl hrf _, rfl⟩) hk
theorem HM2.oneG (φ : Value → Heap → Prop) (hst : Stable2 bef R Rq q k φ) (hj : ops[j]? = some oj) (hdj : oj.dst = some dg) (hdg : Nat.blt dg n = true) (hg : ∀ f h, Known2 ops bef R q f0 h0 Φ k f h → f dg = .bool want)
    (how : ∀ f h, Known2 ops bef R q f0 h0 Φ k f h → HO P ⟨some d, oq, ty, pos, af, some (j, want)⟩ (ev f) h fun v h' => Rk bef R Rq q k h h' ∧ φ v h')
    (hk : HM2 P n ops bef R Rq q f0 h0 Q (k + 1) l (fun i => if i = k then φ else Φ i)) : HM2 P n ops bef R Rq q f0 h0 Q k (⟨some d, oq, ty, pos, af, some (j, want)⟩ :: l) Φ :=
  ⟨φ, hst, fun f h K => ⟨oj, dg, want, hj, hdj, hdg, hg f h K, by rw [if_pos rfl]; exact how f h K⟩, hk⟩
theorem HM2.stillG {v : Value} (hrf : (∀ a, R a a) ∧ ∀ a, Rq a a) (hj : ops[j]? = some oj) (hdj : oj.dst = some dg) (hdg : Nat.blt dg n = true) (hg : ∀ f h, Known2 ops bef R q f0 h0 Φ k f h → f dg = .bool want)
    (r : ∀ f h, Known2 ops bef R q f0 h0 Φ k f h → Runs P ⟨some d, oq, ty, pos, af, some (j, want)⟩ (ev f) h v)
    (hk : HM2 P n ops bef R Rq q f0 h0 Q (k + 1) l (fun i => if i = k then (fun x _ => x = v) else Φ i)) : HM2 P n ops bef R Rq q f0 h0 Q k (⟨some d, oq, ty, pos, af, some (j, want)⟩ :: l) Φ :=
  HM2.oneG (fun x _ => x = v) (fun _ _ => ⟨fun _ _ _ _ e => e, fun _ _ _ _ e => e⟩) hj hdj hdg hg (fun f h K => HO.of_runs (r f h K) ⟨Rk.refl hrf _, rfl⟩) hk
theorem HM2.skipG (hj : ops[j]? = some oj) (hdj : oj.dst = some dg) (hdg : Nat.blt dg n = true) (hg : ∀ f h, Known2 ops bef R q f0 h0 Φ k f h → f dg = .bool (!want))
    (hk : HM2 P n ops bef R Rq q f0 h0 Q (k + 1) l (fun i => if i = k then (fun x _ => x = undef) else Φ i)) : HM2 P n ops bef R Rq q f0 h0 Q k (⟨some d, oq, ty, pos, af, some (j, want)⟩ :: l) Φ :=
  ⟨fun x _ => x = undef, fun _ _ => ⟨fun _ _ _ _ e => e, fun _ _ _ _ e => e⟩, fun f h K => ⟨oj, dg, !want, hj, hdj, hdg, hg f h K, by rw [if_neg (by cases want <;> decide)]⟩, hk⟩
theorem Known2.keep {f : St} {h : Heap} (K : Known2 ops bef R q f0 h0 Φ k f h) {s : Nat} (hn : notW ops s = true) : f s = f0 s := K.old s fun j o hj hd => absurd hd (notW_spec hn hj)
theorem Known2.keepB {f : St} {h : Heap} (K : Known2 ops bef R q f0 h0 Φ k f h) {s : Nat} (hn : preW ops bef k s = true) : f s = f0 s := K.old s fun j o hj hd => by
  have h1 := List.all_eq_true.1 hn j (List.mem_range.2 (Array.getElem?_eq_some_iff.1 hj).1)
  rw [hj] at h1
  simpa [hd] using h1
theorem Known2.at {f : St} {h : Heap} (K : Known2 ops bef R q f0 h0 Φ k f h) (j d : Nat) (hp : pre bef j k = true) (hd : (ops[j]?).bind (·.dst) = some d) : Φ j (f d) h := by
  cases ho : ops[j]? with
  | none => rw [ho] at hd; cases hd
  | some o => rw [ho] at hd; exact K.get j hp o d ho hd
end lastRules
end Go.Proofs.YtjopikfkgjbcgaaDoor
