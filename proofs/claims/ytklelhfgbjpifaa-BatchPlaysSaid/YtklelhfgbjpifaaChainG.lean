/- A region that draws its order in which some operations, one behind the other in every order (the chain), turn memory as they like; of the others some, ahead of all of the chain, lay blocks, and the rest leave memory as it is. -/
import Derived.Test.YtklelhfgbjpifaaChain
namespace Go.Proofs.Ytklelhfgbjpifaa
set_option linter.unnecessarySimpa false
set_option linter.unusedSimpArgs false
set_option linter.unusedVariables false
open Go.RowKit
section chain4
variable (P : Program) (n : Nat) (ops : Array Oper) (bef : Array Nat) (C G : Nat → Bool) (Ψ : Nat → St → Heap → Prop) (f0 : St)
structure Known4 (Φ : Nat → Value → Heap → Prop) (k : Nat) (f : St) (h : Heap) : Prop where
  get : ∀ j, C j = false → G j = false → pre bef j k = true → ∀ o d, ops[j]? = some o → o.dst = some d → Φ j (f d) h
  old : ∀ s, (∀ j o, ops[j]? = some o → o.dst = some s → pre bef k j = true) → f s = f0 s
/-- What is known of those that have laid blocks, as long as the chain has not begun. -/
def KnownG (Φ : Nat → Value → Heap → Prop) (k : Nat) (f : St) (h : Heap) : Prop := ∀ j, C j = false → G j = true → pre bef j k = true → ∀ o d, ops[j]? = some o → o.dst = some d → Φ j (f d) h
def Owes4 (Φ : Nat → Value → Heap → Prop) (k : Nat) (o : Oper) (φ : Value → Heap → Prop) : Prop :=
  o.guard = none ∧
  if C k = true then ∀ t, AtC C t k → ∀ f h, Known4 ops bef C G f0 Φ k f h → (t = 0 → KnownG ops bef C G Φ k f h) → Ψ t f h → HO P o (ev f) h fun v h' => Ψ (k + 1) (updo f o.dst v) h'
  else (G k = false → ∀ v h h', φ v h → φ v h') ∧ (∀ v h h', Ext h h' → φ v h → φ v h') ∧
    ∀ f h, Known4 ops bef C G f0 Φ k f h → (∃ t, (∀ c, C c = true → pre bef k c = true → t ≤ c) ∧ (t = 0 → KnownG ops bef C G Φ k f h) ∧ Ψ t f h) → HO P o (ev f) h fun v h' => (if G k = true then Ext h h' else h' = h) ∧ φ v h'
def HM4 (Q : (Nat → Value → Heap → Prop) → Prop) : Nat → List Oper → (Nat → Value → Heap → Prop) → Prop
  | _, [], Φ => Q Φ
  | k, o :: l, Φ => ∃ φ, Owes4 P ops bef C G Ψ f0 Φ k o φ ∧ HM4 Q (k + 1) l (fun i => if i = k then φ else Φ i)
/-- Those that lay blocks stand ahead of all of the chain. -/
def growOk : Bool := (List.range ops.size).all fun i => !G i || (!C i && (List.range ops.size).all fun c => !C c || pre bef i c)
variable {P n ops bef C G Ψ f0}
theorem Owes4.congr {Φ Φ' : Nat → Value → Heap → Prop} {k : Nat} {o : Oper} {φ : Value → Heap → Prop} (x : Owes4 P ops bef C G Ψ f0 Φ k o φ) (h : ∀ j, j < k → Φ' j = Φ j) : Owes4 P ops bef C G Ψ f0 Φ' k o φ := by
  have hlt : ∀ j, pre bef j k = true → j < k := fun j hj => by simp only [pre, Bool.and_eq_true, decide_eq_true_eq] at hj; exact hj.1
  have hK : ∀ f hh, Known4 ops bef C G f0 Φ' k f hh → Known4 ops bef C G f0 Φ k f hh := fun f hh K => ⟨fun j hc hg hj o d ho hd => by
    rw [← h j (hlt j hj)]
    exact K.get j hc hg hj o d ho hd, K.old⟩
  have hG : ∀ f hh, KnownG ops bef C G Φ' k f hh → KnownG ops bef C G Φ k f hh := fun f hh K j hc hg hj o d ho hd => by
    rw [← h j (hlt j hj)]
    exact K j hc hg hj o d ho hd
  refine ⟨x.1, ?_⟩
  have h2 := x.2
  split at h2
  · rename_i hc
    rw [if_pos hc]
    exact fun t ht f hh K KG => h2 t ht f hh (hK f hh K) fun q => hG f hh (KG q)
  · rename_i hc
    rw [if_neg hc]
    exact ⟨h2.1, h2.2.1, fun f hh K ⟨t, q1, q2, q3⟩ => h2.2.2 f hh (hK f hh K) ⟨t, q1, fun q => hG f hh (q2 q), q3⟩⟩
theorem HM4.global {Q : (Nat → Value → Heap → Prop) → Prop} : ∀ (l : List Oper) (k : Nat) (Φ : Nat → Value → Heap → Prop), HM4 P ops bef C G Ψ f0 Q k l Φ → ops.toList.drop k = l →
    (∀ i o, i < k → ops[i]? = some o → Owes4 P ops bef C G Ψ f0 Φ i o (Φ i)) →
    ∃ Φ, Q Φ ∧ ∀ i o, ops[i]? = some o → Owes4 P ops bef C G Ψ f0 Φ i o (Φ i)
  | [], k, Φ, h, hl, hp => by
    refine ⟨Φ, h, fun i o ho => hp i o ?_ ho⟩
    have h1 := (Array.getElem?_eq_some_iff.1 ho).1
    have h2 : ops.toList.length ≤ k := List.drop_eq_nil_iff.1 hl
    simp at h2
    omega
  | o :: l, k, Φ, h, hl, hp => by
    obtain ⟨φ, ho, hr⟩ := h
    have hk : ops[k]? = some o := by
      have := congrArg (·[0]?) hl
      simpa using this
    refine HM4.global l (k + 1) _ hr ?_ ?_
    · have := congrArg (List.drop 1) hl
      rw [List.drop_drop] at this
      simpa using this
    · intro i o' hi ho'
      by_cases hik : i = k
      · subst hik
        rw [hk] at ho'
        cases ho'
        simp only [if_true]
        exact ho.congr fun j hj => by rw [if_neg (by omega)]
      · have := hp i o' (by omega) ho'
        simp only [if_neg hik]
        exact this.congr fun j hj => by rw [if_neg (by omega)]
structure MInv4 (n : Nat) (ops : Array Oper) (bef : Array Nat) (C G : Nat → Bool) (Ψ : Nat → St → Heap → Prop) (f0 : St) (w0 : World) (Φ : Nat → Value → Heap → Prop) (listed : Array Bool) (a : Act) (w : World) (f : St) : Prop where
  size : listed.size = ops.size
  rep : Rep n f a
  rest : Rest w0 w
  closed : ∀ i, listed.getD i false = true → ∀ j, pre bef j i = true → listed.getD j false = true
  vals : ∀ i o d, ops[i]? = some o → C i = false → G i = false → listed.getD i false = true → o.dst = some d → Φ i (f d) w.heap
  old : ∀ s, (∀ i o, ops[i]? = some o → listed.getD i false = true → o.dst ≠ some s) → f s = f0 s
  now : ∃ t, t ≤ ops.size ∧ (∀ j, j < t → j < ops.size → C j = true → listed.getD j false = true) ∧ (∀ j, t ≤ j → C j = true → listed.getD j false = false) ∧ (t = 0 ∨ C (t - 1) = true) ∧ Ψ t f w.heap ∧ (t = 0 → ∀ i o d, ops[i]? = some o → C i = false → G i = true → listed.getD i false = true → o.dst = some d → Φ i (f d) w.heap)
theorem mono_any4 (hB : monoB n ops bef = true) (hC : chainOk ops bef C = true) (hGo : growOk ops bef C G = true) (hΨ0 : ∀ f h h', Ext h h' → Ψ 0 f h → Ψ 0 f h') (hst : ∀ t f h d v i o, ops[i]? = some o → C i = false → o.dst = some d → (t = 0 ∨ C (t - 1) = true) → (∀ c, C c = true → pre bef i c = true → t ≤ c) → Ψ t f h → Ψ t (upd f d v) h)
    {Φ : Nat → Value → Heap → Prop} (hΦ : ∀ i o, ops[i]? = some o → Owes4 P ops bef C G Ψ f0 Φ i o (Φ i)) {w0 : World} {Q' : Exit → Act → World → Prop}
    (hQ : ∀ listed a w f, MInv4 n ops bef C G Ψ f0 w0 Φ listed a w f → (∀ i, i < ops.size → listed.getD i false = true) → Q' .normal a w) :
    ∀ (fuel : Nat) (listed : Array Bool) (a : Act) (w : World) (f : St), MInv4 n ops bef C G Ψ f0 w0 Φ listed a w f → leftOf listed ops.size = fuel → wpAny P .any ops Q' fuel listed a w := by
  intro fuel
  induction fuel with
  | zero =>
    intro listed a w f J hl
    have hall : ∀ i, i < ops.size → listed.getD i false = true := by
      intro i hi
      have h1 : ((List.range ops.size).filter fun i => !listed.getD i false) = [] := List.length_eq_zero_iff.1 hl
      have h2 := List.filter_eq_nil_iff.1 h1 i (List.mem_range.2 hi)
      simpa using h2
    refine ⟨?_, hQ listed a w f J hall⟩
    apply List.eq_nil_iff_forall_not_mem.2
    intro i hi
    obtain ⟨h1, oi, h2, -⟩ := mem_ready.1 hi
    have hlt := (Array.getElem?_eq_some_iff.1 h2).1
    have h3 := hall i hlt
    have hls : i < listed.size := by rw [J.size]; exact hlt
    simp [hls] at h1 h3
    rw [h1] at h3
    cases h3
  | succ fuel ih =>
    intro listed a w f J hl
    refine ⟨fun hr => ?_, fun i hi => ?_⟩
    · exfalso
      have hne : ((List.range ops.size).filter fun i => !listed.getD i false) ≠ [] := by
        intro e
        unfold leftOf at hl
        rw [e] at hl
        cases hl
      obtain ⟨i, hi⟩ := List.exists_mem_of_ne_nil _ hne
      have key : ∀ m i, i ≤ m → i < ops.size → listed.getD i false = false → False := by
        intro m
        induction m with
        | zero =>
          intro i hi0 hlt hun
          have : i = 0 := by omega
          subst this
          have hls : 0 < listed.size := by rw [J.size]; exact hlt
          have ho : ops[0]? = some ops[0] := by simp [hlt]
          have : 0 ∈ Region.ready .any ops listed := mem_ready.2 ⟨by simpa [hls] using hun, _, ho, fun e he hb => absurd ((mono_spec hB ho).2.1 e he hb) (by omega)⟩
          rw [hr] at this
          cases this
        | succ m ihm =>
          intro i hi0 hlt hun
          have hls : i < listed.size := by rw [J.size]; exact hlt
          have ho : ops[i]? = some ops[i] := by simp [hlt]
          have : i ∈ Region.ready .any ops listed := mem_ready.2 ⟨by simpa [hls] using hun, _, ho, fun e he hb => by
            have hlt' := (mono_spec hB ho).2.1 e he hb
            by_cases hx : listed.getD e.on false = true
            · exact hx
            · exact (ihm e.on (by omega) (by omega) (by simpa using hx)).elim⟩
          rw [hr] at this
          cases this
      obtain ⟨h1, h2⟩ := List.mem_filter.1 hi
      exact key i i (Nat.le_refl _) (List.mem_range.1 h1) (by simpa using h2)
    · obtain ⟨hun, o, ho, hed⟩ := mem_ready.1 hi
      have hlt := (Array.getElem?_eq_some_iff.1 ho).1
      have hls : i < listed.size := by rw [J.size]; exact hlt
      have hun' : listed.getD i false = false := by simp [hls] at hun ⊢; exact hun
      obtain ⟨m1, m2, m3, m4⟩ := mono_spec hB ho
      have hpre : ∀ j, pre bef j i = true → listed.getD j false = true := by
        intro j hj
        obtain ⟨e, he, hb, h1 | h1⟩ := m3 j hj
        · rw [← h1]; exact hed e he hb
        · exact J.closed e.on (hed e he hb) j h1
      have hK : Known4 ops bef C G f0 Φ i f w.heap := by
        refine ⟨fun j hc hg hj o' d ho' hd => J.vals j o' d ho' hc hg (hpre j hj) hd, fun s hs => J.old s fun j o' ho' hlj hd => ?_⟩
        have := J.closed j hlj i (hs j o' ho' hd)
        rw [this] at hun'
        cases hun'
      obtain ⟨hg, how⟩ := hΦ i o ho
      have hset : ∀ j, j ≠ i → (listed.setIfInBounds i true).getD j false = listed.getD j false := fun j hj => by simp [Array.getElem?_setIfInBounds, Ne.symm hj]
      have hseti : (listed.setIfInBounds i true).getD i false = true := by simp [hls]
      have hkeepV : ∀ (v : Value) i' o' d, i' ≠ i → ops[i']? = some o' → o'.dst = some d → (updo f o.dst v) d = f d := by
        intro v i' o' d e ho' hd
        have hne : ∀ d', o.dst = some d' → d ≠ d' := by
          intro d' hd' e2
          subst e2
          rcases Nat.lt_or_gt_of_ne e with hl2 | hl2
          · exact m4 i' o' hl2 ho' d hd' hd
          · exact (mono_spec hB ho').2.2.2 i o hl2 ho d hd hd'
        cases hod : o.dst with
        | none => rfl
        | some d' => simp only [updo]; rw [upd_ne _ _ _ _ (hne d' hod)]
      have hindep : ∀ i' o', ops[i']? = some o' → C i' = false → G i' = false → ∀ v h h', Φ i' v h → Φ i' v h' := by
        intro i' o' ho' hc' hg'
        have := (hΦ i' o' ho').2
        rw [if_neg (by rw [hc']; decide)] at this
        exact this.1 hg'
      have hstab : ∀ i' o', ops[i']? = some o' → C i' = false → ∀ v h h', Ext h h' → Φ i' v h → Φ i' v h' := by
        intro i' o' ho' hc'
        have := (hΦ i' o' ho').2
        rw [if_neg (by rw [hc']; decide)] at this
        exact this.2.1
      have hnext : ∀ (v : Value) (w' : World), Rest w w' → (C i = false → Φ i v w'.heap) → (∃ t, t ≤ ops.size ∧ (∀ j, j < t → j < ops.size → C j = true → (listed.setIfInBounds i true).getD j false = true) ∧ (∀ j, t ≤ j → C j = true → (listed.setIfInBounds i true).getD j false = false) ∧ (t = 0 ∨ C (t - 1) = true) ∧ Ψ t (updo f o.dst v) w'.heap ∧
          (t = 0 → ∀ i' o' d, ops[i']? = some o' → C i' = false → G i' = true → (listed.setIfInBounds i true).getD i' false = true → o'.dst = some d → Φ i' ((updo f o.dst v) d) w'.heap)) → wpAny P .any ops Q' fuel (listed.setIfInBounds i true) (a.put o.dst v) w' := by
        intro v w' hr hv hnow
        refine ih _ _ _ (updo f o.dst v) ?_ (by have := leftOf_set hlt hls hun'; omega)
        refine ⟨by simp [J.size], J.rep.puto o.dst m1 v, J.rest.trans hr, fun i' hi' j hj => ?_, fun i' o' d ho' hc' hg' hi' hd => ?_, fun s hs => ?_, hnow⟩
        · have hlj : listed.getD j false = true := by
            by_cases e : i' = i
            · rw [e] at hj; exact hpre j hj
            · rw [hset i' e] at hi'; exact J.closed i' hi' j hj
          by_cases e : j = i
          · rw [e]; exact hseti
          · rw [hset j e]; exact hlj
        · by_cases e : i' = i
          · subst e
            rw [ho] at ho'
            cases ho'
            rw [hd]
            simp only [updo, upd_eq]
            exact hv hc'
          · rw [hset i' e] at hi'
            rw [hkeepV v i' o' d e ho' hd]
            exact hindep i' o' ho' hc' hg' _ _ _ (J.vals i' o' d ho' hc' hg' hi' hd)
        · have h1 := J.old s fun i' o' ho' hi' => hs i' o' ho' (by
            by_cases e : i' = i
            · rw [e]; exact hseti
            · rw [hset i' e]; exact hi')
          have h2 := hs i o ho hseti
          cases hod : o.dst with
          | none => exact h1
          | some d' => simp only [updo]; rw [upd_ne _ _ _ _ (fun e => h2 (by rw [hod, e]))]; exact h1
      have hrun : ∀ (K : Value → Heap → Prop), HO P o (ev f) w.heap K → (∀ v w', Rest w w' → K v w'.heap → wpAny P .any ops Q' fuel (listed.setIfInBounds i true) (a.put o.dst v) w') → o.wp P a w (wpAny P .any ops Q' fuel (listed.setIfInBounds i true)) Q' := by
        intro K hho hk
        have h1 := hho w rfl
        rw [← J.rep.eval] at h1
        unfold Oper.wp
        generalize (execOp a.eval o).run P w = r at h1
        cases r with
        | halt x w' => simp [Out] at h1
        | ok nx w' =>
          cases nx with
          | value v => exact hk v w' h1.1 h1.2
          | skip => exact hk undef w' h1.1 h1.2
          | enter fn args =>
            simp only [Oper.upon]
            refine (h1.2 w' rfl).mono fun e w'' ⟨v, he, hr2, hkk⟩ => ?_
            subst he
            exact hk v w'' (h1.1.trans hr2) hkk
          | _ => simp [Out] at h1
      obtain ⟨t, tsz, t1, t2, t3, t4, t5⟩ := J.now
      have hKG : t = 0 → KnownG ops bef C G Φ i f w.heap := fun q j hc hgj hj o' d ho' hd => t5 q j o' d ho' hc hgj (hpre j hj) hd
      have hgo : o.wp P a w (wpAny P .any ops Q' fuel (listed.setIfInBounds i true)) Q' := by
        by_cases hc : C i = true
        · rw [if_pos hc] at how
          have hti : t ≤ i := by
            rcases Nat.lt_or_ge i t with h | h
            · have := t1 i h hlt hc
              rw [this] at hun'
              cases hun'
            · exact h
          have hno : ∀ j, t ≤ j → j < i → C j = false := by
            intro j hj1 hj2
            cases hcj : C j with
            | false => rfl
            | true =>
              have h1 := t2 j hj1 hcj
              have h2 : pre bef j i = true := by
                unfold chainOk at hC
                have h3 := List.all_eq_true.1 (List.all_eq_true.1 hC i (List.mem_range.2 hlt)) j (List.mem_range.2 hj2)
                simpa [hc, hcj] using h3
              have h3 := hpre j h2
              rw [h1] at h3
              cases h3
          refine hrun _ (how t ⟨hti, hno, t3⟩ f w.heap hK hKG t4) fun v w' hr hk => hnext v w' hr (fun q => by rw [hc] at q; cases q) ⟨i + 1, hlt, fun j hj hjs hcj => ?_, fun j hj hcj => ?_, .inr (by simpa using hc), hk, fun q => by omega⟩
          · by_cases e : j = i
            · rw [e]; exact hseti
            · rw [hset j e]
              rcases Nat.lt_or_ge j t with h | h
              · exact t1 j h hjs hcj
              · have := hno j h (by omega)
                rw [hcj] at this
                cases this
          · rw [hset j (by omega)]
            exact t2 j (by omega) hcj
        · rw [if_neg hc] at how
          have hcf : C i = false := by simpa using hc
          have hbnd : ∀ c, C c = true → pre bef i c = true → t ≤ c := fun c hcc hpc => Nat.le_of_not_lt fun hlt2 => by
            have := J.closed c (t1 c hlt2 (Nat.lt_of_lt_of_le hlt2 tsz) hcc) i hpc
            rw [this] at hun'
            cases hun'
          refine hrun _ (how.2.2 f w.heap hK ⟨t, hbnd, hKG, t4⟩) fun v w' hr ⟨hh, hk⟩ => hnext v w' hr (fun _ => hk) ⟨t, tsz, fun j hj hjs hcj => ?_, fun j hj hcj => ?_, t3, ?_, fun q i' o' d ho' hc' hg' hi' hd => ?_⟩
          · have e : j ≠ i := fun e => by rw [e, hcf] at hcj; cases hcj
            rw [hset j e]
            exact t1 j hj hjs hcj
          · have e : j ≠ i := fun e => by rw [e, hcf] at hcj; cases hcj
            rw [hset j e]
            exact t2 j hj hcj
          · have hΨ : Ψ t f w'.heap := by
              by_cases hgi : G i = true
              · rw [if_pos hgi] at hh
                have ht0 : t = 0 := by
                  rcases t3 with q | q
                  · exact q
                  · rcases Nat.eq_zero_or_pos t with q0 | q0
                    · exact q0
                    · have h1 := t1 (t - 1) (by omega) (by omega) q
                      unfold growOk at hGo
                      have h2 := List.all_eq_true.1 hGo i (List.mem_range.2 hlt)
                      rw [hgi, hcf] at h2
                      simp only [Bool.not_true, Bool.not_false, Bool.true_and, Bool.false_or] at h2
                      have h3 := List.all_eq_true.1 h2 (t - 1) (List.mem_range.2 (by omega))
                      rw [q] at h3
                      have h4 := J.closed (t - 1) h1 i (by simpa using h3)
                      rw [h4] at hun'
                      cases hun'
                rw [ht0] at t4 ⊢
                exact hΨ0 f _ _ hh t4
              · rw [if_neg hgi] at hh
                rw [hh]
                exact t4
            cases hod : o.dst with
            | none => exact hΨ
            | some d => exact hst t f w'.heap d v i o ho hcf hod t3 hbnd hΨ
          · by_cases e : i' = i
            · subst e
              rw [ho] at ho'
              cases ho'
              rw [hd]
              simp only [updo, upd_eq]
              exact hk
            · rw [hset i' e] at hi'
              rw [hkeepV v i' o' d e ho' hd]
              have h1 := t5 q i' o' d ho' hc' hg' hi' hd
              by_cases hgi : G i = true
              · rw [if_pos hgi] at hh
                exact hstab i' o' ho' hc' _ _ _ hh h1
              · rw [if_neg hgi] at hh
                rw [hh]
                exact h1
      unfold wpOp
      simp only [ho]
      rw [if_pos (by unfold Region.wanted; rw [hg])]
      exact .inl hgo
/-- The region. -/
theorem HW.chainG {id : Nat} {l : List Oper} {N : St → Heap → Prop} {X : Nat → St → Heap → Prop} {Rt : St → Heap → Prop} {f : St} {h : Heap} (bef : Array Nat) (C G : Nat → Bool) (Ψ : Nat → St → Heap → Prop) (hm : P.follows .mixedOrders = true) (hB : monoB n l.toArray bef = true) (hC : chainOk l.toArray bef C = true) (hGo : growOk l.toArray bef C G = true) (hΨ0 : ∀ f h h', Ext h h' → Ψ 0 f h → Ψ 0 f h')
    (h0 : Ψ 0 f h) (hst : ∀ t f h d v i o, l.toArray[i]? = some o → C i = false → o.dst = some d → (t = 0 ∨ C (t - 1) = true) → (∀ c, C c = true → pre bef i c = true → t ≤ c) → Ψ t f h → Ψ t (upd f d v) h)
    (k : HM4 P l.toArray bef C G Ψ f (fun Φ => ∀ f' h' t, AtC C t l.length → Ψ t f' h' → (∀ (j : Nat) (o : Oper) (d : Nat), l.toArray[j]? = some o → C j = false → G j = false → o.dst = some d → Φ j (f' d) h') → (∀ s : Nat, (∀ (j : Nat) (o : Oper), l.toArray[j]? = some o → o.dst ≠ some s) → f' s = f s) → N f' h') 0 l (fun _ _ _ => True)) :
    HW P n (.region id l.toArray true) N X Rt f h := by
  intro a w0 w ha hr hw
  obtain ⟨Φ, hN, hΦ⟩ := HM4.global l 0 _ k (by simp) (fun i o hi => by omega)
  refine wp_region_any hm (mono_any4 hB hC hGo hΨ0 hst hΦ (w0 := w0) ?_ _ _ _ _ f ?_ ?_)
  · intro listed a' w' f' J hall
    obtain ⟨t, tsz, t1, t2, t3, t4, _⟩ := J.now
    refine ⟨f', J.rep, J.rest, hN f' _ t ⟨by simpa using tsz, fun j hj hjl => ?_, t3⟩ t4 (fun j o d ho hc hg hd => J.vals j o d ho hc hg (hall j (Array.getElem?_eq_some_iff.1 ho).1) hd) fun s hs => J.old s fun i o ho _ => hs i o ho⟩
    cases hc : C j with
    | false => rfl
    | true =>
      have := t2 j hj hc
      rw [hall j (by simpa using hjl)] at this
      cases this
  · subst hw
    refine ⟨by simp, ha, hr.trans ⟨rfl, rfl, rfl⟩, fun i hi => ?_, fun i o d _ _ _ hi => ?_, fun s _ => rfl, 0, Nat.zero_le _, fun j hj => by omega, fun j _ _ => ?_, .inl rfl, h0, fun _ i o d _ _ _ hi => ?_⟩
    · exfalso
      simp [Array.getElem?_replicate] at hi
      split at hi <;> simp at hi
    · exfalso
      simp [Array.getElem?_replicate] at hi
      split at hi <;> simp at hi
    · simp [Array.getElem?_replicate]
      split <;> rfl
    · exfalso
      simp [Array.getElem?_replicate] at hi
      split at hi <;> simp at hi
  · unfold leftOf
    rw [List.filter_eq_self.2]
    · simp
    · intro i hi
      have := List.mem_range.1 hi
      simp [Array.getElem?_replicate]
      split <;> rfl
end chain4
section chain4Rules
variable {P : Program} {n : Nat} {ops : Array Oper} {bef : Array Nat} {C G : Nat → Bool} {Ψ : Nat → St → Heap → Prop} {f0 : St} {Q : (Nat → Value → Heap → Prop) → Prop} {k : Nat} {l : List Oper} {Φ : Nat → Value → Heap → Prop}
  {d : Nat} {oq : Op} {ty : TypeId} {pos : String} {af : Array Edge}
theorem HM4.look {v : Value} (hc : C k = false) (hg : G k = false) (r : ∀ f h, Known4 ops bef C G f0 Φ k f h → (∃ t, (∀ c, C c = true → pre bef k c = true → t ≤ c) ∧ (t = 0 → KnownG ops bef C G Φ k f h) ∧ Ψ t f h) → Runs P ⟨some d, oq, ty, pos, af, none⟩ (ev f) h v)
    (hk : HM4 P ops bef C G Ψ f0 Q (k + 1) l (fun i => if i = k then (fun x _ => x = v) else Φ i)) : HM4 P ops bef C G Ψ f0 Q k (⟨some d, oq, ty, pos, af, none⟩ :: l) Φ :=
  ⟨fun x _ => x = v, ⟨rfl, by rw [if_neg (by rw [hc]; decide)]; exact ⟨fun _ _ _ _ q => q, fun _ _ _ _ q => q, fun f h K E => HO.of_runs (r f h K E) ⟨by rw [if_neg (by rw [hg]; decide)], rfl⟩⟩⟩, hk⟩
theorem HM4.still {v : Value} (hc : C k = false) (hg : G k = false) (r : ∀ f h, Known4 ops bef C G f0 Φ k f h → Runs P ⟨some d, oq, ty, pos, af, none⟩ (ev f) h v)
    (hk : HM4 P ops bef C G Ψ f0 Q (k + 1) l (fun i => if i = k then (fun x _ => x = v) else Φ i)) : HM4 P ops bef C G Ψ f0 Q k (⟨some d, oq, ty, pos, af, none⟩ :: l) Φ :=
  HM4.look hc hg (fun f h K _ => r f h K) hk
/-- One that lays blocks ahead of the chain. -/
theorem HM4.grow (φ : Value → Heap → Prop) (hc : C k = false) (hg : G k = true) (hst : ∀ v h h', Ext h h' → φ v h → φ v h')
    (r : ∀ f h, Known4 ops bef C G f0 Φ k f h → (∃ t, (∀ c, C c = true → pre bef k c = true → t ≤ c) ∧ (t = 0 → KnownG ops bef C G Φ k f h) ∧ Ψ t f h) → HO P ⟨some d, oq, ty, pos, af, none⟩ (ev f) h fun v h' => Ext h h' ∧ φ v h')
    (hk : HM4 P ops bef C G Ψ f0 Q (k + 1) l (fun i => if i = k then φ else Φ i)) : HM4 P ops bef C G Ψ f0 Q k (⟨some d, oq, ty, pos, af, none⟩ :: l) Φ :=
  ⟨φ, ⟨rfl, by rw [if_neg (by rw [hc]; decide)]; exact ⟨fun q => (by rw [hg] at q; cases q), hst, fun f h K E => (r f h K E).mono fun v h' q => ⟨by rw [if_pos hg]; exact q.1, q.2⟩⟩⟩, hk⟩
theorem HM4.turnN (t : Nat) (hc : C k = true) (ht : AtC C t k) (how : ∀ f h, Known4 ops bef C G f0 Φ k f h → (t = 0 → KnownG ops bef C G Φ k f h) → Ψ t f h → HO P ⟨none, oq, ty, pos, af, none⟩ (ev f) h fun _ h' => Ψ (k + 1) f h')
    (hk : HM4 P ops bef C G Ψ f0 Q (k + 1) l (fun i => if i = k then (fun _ _ => True) else Φ i)) : HM4 P ops bef C G Ψ f0 Q k (⟨none, oq, ty, pos, af, none⟩ :: l) Φ :=
  ⟨fun _ _ => True, ⟨rfl, by rw [if_pos hc]; exact fun t' ht' f h K KG hΨ => by rw [ht'.eq ht] at hΨ; exact how f h K (fun q => KG (by rw [ht'.eq ht]; exact q)) hΨ⟩, hk⟩
theorem HM4.turn (t : Nat) (hc : C k = true) (ht : AtC C t k) (how : ∀ f h, Known4 ops bef C G f0 Φ k f h → (t = 0 → KnownG ops bef C G Φ k f h) → Ψ t f h → HO P ⟨some d, oq, ty, pos, af, none⟩ (ev f) h fun v h' => ∀ u, u = v → Ψ (k + 1) (upd f d u) h')
    (hk : HM4 P ops bef C G Ψ f0 Q (k + 1) l (fun i => if i = k then (fun _ _ => True) else Φ i)) : HM4 P ops bef C G Ψ f0 Q k (⟨some d, oq, ty, pos, af, none⟩ :: l) Φ :=
  ⟨fun _ _ => True, ⟨rfl, by rw [if_pos hc]; exact fun t' ht' f h K KG hΨ => by rw [ht'.eq ht] at hΨ; exact (how f h K (fun q => KG (by rw [ht'.eq ht]; exact q)) hΨ).mono fun v h' q => q v rfl⟩, hk⟩
theorem Known4.keep {f : St} {h : Heap} (K : Known4 ops bef C G f0 Φ k f h) {s : Nat} (hn : notW ops s = true) : f s = f0 s := K.old s fun j o hj hd => absurd hd (notW_spec hn hj)
theorem Known4.at {f : St} {h : Heap} (K : Known4 ops bef C G f0 Φ k f h) (j d : Nat) (hc : C j = false) (hg : G j = false) (hp : pre bef j k = true) (hd : (ops[j]?).bind (·.dst) = some d) : Φ j (f d) h := by
  cases ho : ops[j]? with
  | none => rw [ho] at hd; cases hd
  | some o => rw [ho] at hd; exact K.get j hc hg hp o d ho hd
theorem KnownG.at {f : St} {h : Heap} (K : KnownG ops bef C G Φ k f h) (j d : Nat) (hc : C j = false) (hg : G j = true) (hp : pre bef j k = true) (hd : (ops[j]?).bind (·.dst) = some d) : Φ j (f d) h := by
  cases ho : ops[j]? with
  | none => rw [ho] at hd; cases hd
  | some o => rw [ho] at hd; exact K j hc hg hp o d ho hd
end chain4Rules
end Go.Proofs.Ytklelhfgbjpifaa
