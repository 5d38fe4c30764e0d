/- What a right row is made of: its head, and right rows one behind the other; where these begin and end. No program in sight. -/
import Derived.Test.YtjopikfkgjbcgaaDoorRa
import Derived.Test.YtjopikfkgjbcgaaDoorWe
namespace Go.Proofs.YtjopikfkgjbcgaaDoor
set_option linter.unnecessarySimpa false
set_option linter.unusedSimpArgs false
set_option linter.unusedVariables false
open Go.RowKit
/-- So many values, one behind the other, by their counts alone. -/
def Vals : Nat → List JV → Prop
  | w, [] => w = 0
  | w, x :: r => 1 ≤ w ∧ 0 ≤ x.2.2.2 ∧ Vals (w - 1 + x.2.2.2.toNat) r
theorem Vals.le : ∀ {p : List JV} {w : Nat}, Vals w p → w ≤ p.length
  | [], w, h => by unfold Vals at h; omega
  | x :: r, w, ⟨h1, h2, h3⟩ => by have := Vals.le h3; rw [List.length_cons]; omega
theorem Vals.append : ∀ {p q : List JV} {a b : Nat}, Vals a p → Vals b q → Vals (a + b) (p ++ q)
  | [], q, a, b, h, k => by unfold Vals at h; subst h; simpa using k
  | x :: r, q, a, b, ⟨h1, h2, h3⟩, k => ⟨by omega, h2, by
    have := Vals.append h3 k
    rwa [show a - 1 + x.2.2.2.toNat + b = a + b - 1 + x.2.2.2.toNat by omega] at this⟩
theorem Vals.split : ∀ {p : List JV} {a b : Nat}, Vals (a + b) p → ∃ r q, p = r ++ q ∧ Vals a r ∧ Vals b q
  | p, 0, b, h => ⟨[], p, rfl, rfl, by simpa using h⟩
  | [], a + 1, b, h => by unfold Vals at h; omega
  | x :: r, a + 1, b, ⟨h1, h2, h3⟩ => by
    rw [show a + 1 + b - 1 + x.2.2.2.toNat = (a + x.2.2.2.toNat) + b by omega] at h3
    obtain ⟨s, q, e, k1, k2⟩ := Vals.split h3
    refine ⟨x :: s, q, by rw [e]; rfl, ⟨by omega, h2, ?_⟩, k2⟩
    rwa [show a + 1 - 1 + x.2.2.2.toNat = a + x.2.2.2.toNat by omega]
theorem Vals.flat : ∀ {ks : List (List JV)}, (∀ k ∈ ks, Vals 1 k) → Vals ks.length ks.flatten
  | [], _ => rfl
  | k :: ks, h => by
    have := Vals.append (h k (List.mem_cons_self ..)) (Vals.flat (ks := ks) fun x hx => h x (List.mem_cons_of_mem _ hx))
    rwa [Nat.add_comm] at this
theorem Vals.kids : ∀ {c : Nat} {p : List JV} {b : Nat}, Vals (c + b) p → ∃ ks q, p = List.flatten ks ++ q ∧ ks.length = c ∧ (∀ k ∈ ks, Vals 1 k) ∧ Vals b q
  | 0, p, b, h => ⟨[], p, rfl, rfl, (fun _ h => by cases h), by simpa using h⟩
  | c + 1, p, b, h => by
    rw [show c + 1 + b = 1 + (c + b) by omega] at h
    obtain ⟨r, q, e, h1, h2⟩ := Vals.split h
    obtain ⟨ks, q', e', k1, k2, k3⟩ := Vals.kids h2
    refine ⟨r :: ks, q', by rw [e, e']; simp, by simp [k1], fun k hk => ?_, k3⟩
    rcases List.mem_cons.1 hk with rfl | hk
    · exact h1
    · exact k2 k hk
theorem Vals.drop : ∀ {p : List JV} {w : Nat} (t : Nat), Vals w p → ∃ w', Vals w' (p.drop t)
  | p, w, 0, h => ⟨w, h⟩
  | [], w, t + 1, h => ⟨0, by simp [Vals]⟩
  | x :: r, w, t + 1, ⟨_, _, h3⟩ => Vals.drop t h3
theorem Vals.pos {p : List JV} {w : Nat} (h : Vals w p) (hp : p ≠ []) : 1 ≤ w := by
  cases p with
  | nil => exact absurd rfl hp
  | cons x r => exact h.1
theorem Vals.ne {p : List JV} {w : Nat} (h : Vals w p) (hw : 1 ≤ w) : p ≠ [] := by
  rintro rfl
  unfold Vals at h
  omega
/-- Where so many values end. -/
theorem Vals.ends (n : Nat) : ∀ {p q : List JV} {w k : Nat}, Vals w p → p.length ≤ n → endS n (p ++ q) w k = ((k + p.length : Nat) : Int)
  | [], q, w, k, h, _ => by
    unfold Vals at h
    subst h
    rw [endS_stop _ _ _ _ (by decide)]
    simp
  | x :: r, q, w, k, ⟨h1, h2, h3⟩, hn => by
    have hle := h3.le
    rw [List.length_cons] at hn
    rw [List.cons_append, endS, if_pos (by omega), if_neg (by omega)]
    rw [show (w : Int) - 1 + x.2.2.2 = ((w - 1 + x.2.2.2.toNat : Nat) : Int) by omega]
    rw [Vals.ends n h3 (by omega), List.length_cons]
    congr 1
    omega
/-- Where a value ends that stands in a row. -/
theorem endO_at {l a p q : List JV} (e : l = a ++ (p ++ q)) (hv : Vals 1 p) : endO l a.length = ((a.length + p.length : Nat) : Int) := by
  have hpos := hv.le
  have hl : l.length = a.length + (p.length + q.length) := by rw [e]; simp
  unfold endO
  rw [if_neg (by omega)]
  have : l.drop ((a.length : Int)).toNat = p ++ q := by rw [e]; simp
  rw [this]
  exact Vals.ends l.length hv (by omega)
/-- The places of so many values: each one's end is the next one's. -/
def itersE (l : List JV) : Nat → Int → List Int
  | 0, _ => []
  | c + 1, k => k :: itersE l c (endO l k)
/-- The places where rows begin that stand one behind the other. -/
def posK : Nat → List (List JV) → List Int
  | _, [] => []
  | k, p :: ks => (k : Int) :: posK (k + p.length) ks
theorem posK_len : ∀ (k : Nat) (ks : List (List JV)), (posK k ks).length = ks.length
  | _, [] => rfl
  | k, p :: ks => by simp [posK, posK_len]
theorem iters_at {l : List JV} : ∀ {ks : List (List JV)} {a q : List JV}, l = a ++ (ks.flatten ++ q) → (∀ k ∈ ks, Vals 1 k) → itersE l ks.length a.length = posK a.length ks
  | [], a, q, _, _ => rfl
  | p :: ks, a, q, e, h => by
    have e1 : l = a ++ (p ++ (ks.flatten ++ q)) := by rw [e]; simp
    have e2 : l = (a ++ p) ++ (ks.flatten ++ q) := by rw [e]; simp
    rw [List.length_cons, itersE, posK, endO_at e1 (h p (List.mem_cons_self ..))]
    have := iters_at e2 fun k hk => h k (List.mem_cons_of_mem _ hk)
    rw [List.length_append] at this
    rw [this]
theorem posK_get : ∀ (k : Nat) (ks : List (List JV)) (i : Nat), i < ks.length → (posK k ks)[i]? = some ((k + (ks.take i).flatten.length : Nat) : Int)
  | _, [], i, h => by cases h
  | k, p :: ks, 0, _ => by simp [posK]
  | k, p :: ks, i + 1, h => by
    rw [List.length_cons] at h
    rw [posK, List.getElem?_cons_succ, posK_get _ ks i (by omega), List.take_succ_cons, List.flatten_cons, List.length_append]
    congr 2
    omega
theorem split_at {α : Type} (ks : List α) (i : Nat) (h : i < ks.length) : ks = ks.take i ++ (ks[i] :: ks.drop (i + 1)) := by
  rw [← List.drop_eq_getElem_cons h, List.take_append_drop]
theorem flat_split (ks : List (List JV)) (i : Nat) (h : i < ks.length) : ks.flatten = (ks.take i).flatten ++ (ks[i] ++ (ks.drop (i + 1)).flatten) := by
  have := congrArg List.flatten (split_at ks i h)
  rw [List.flatten_append, List.flatten_cons] at this
  exact this
/-! ### Right rows -/
theorem own_count {x : JV} (h : ownO x = true) : 0 ≤ x.2.2.2 := by
  unfold ownO at h
  split at h
  · cases h
  · rename_i q; omega
theorem fit_own {m : Bool} {x : JV} (h : fitV m x = true) : ownO x = true ∧ (m = true ∨ x.2.1 = []) ∧ validO x.2.1 = true := by
  unfold fitV at h
  simp only [Bool.and_eq_true, Bool.or_eq_true, decide_eq_true_eq] at h
  exact ⟨h.1.1, h.1.2, h.2⟩
/-- A right row. -/
def Seg (d : Nat) (mem : Bool) (p : List JV) : Prop := ∀ q, rightV d mem (p ++ q) = some q
/-- A row's key. -/
def kk (p : List JV) : List UInt8 := (p.headD zJ).2.1
def KidsOk (d : Nat) (o : Bool) (ns : List (List UInt8)) (ks : List (List JV)) : Prop := (∀ k ∈ ks, Seg d o k) ∧ (o = true → (ks.map kk).Nodup ∧ ∀ k ∈ ks, kk k ∉ ns)
theorem Seg.ne {d : Nat} {m : Bool} {p : List JV} (h : Seg d m p) : p ≠ [] := by
  rintro rfl
  have h1 := h []
  cases d <;> simp [rightV] at h1
theorem kids_to {d : Nat} {o : Bool} : ∀ (ks : List (List JV)) (ns : List (List UInt8)) (q : List JV), KidsOk d o ns ks → kidsV (rightV d o) o ks.length ns (ks.flatten ++ q) = some q
  | [], ns, q, _ => rfl
  | k :: ks, ns, q, ⟨h1, h2⟩ => by
    have hk := h1 k (List.mem_cons_self ..)
    cases k with
    | nil => exact absurd rfl hk.ne
    | cons x r =>
      have hns : (o && ns.contains x.2.1) = false := by
        cases o with
        | false => rfl
        | true =>
          have := (h2 rfl).2 _ (List.mem_cons_self ..)
          simpa [kk] using this
      have e : ((x :: r) :: ks).flatten ++ q = x :: (r ++ (ks.flatten ++ q)) := by simp
      rw [e, List.length_cons, kidsV, hns]
      have e2 : x :: (r ++ (ks.flatten ++ q)) = (x :: r) ++ (ks.flatten ++ q) := by simp
      rw [e2, hk]
      simp only [Bool.false_eq_true, if_false, Option.bind_some]
      refine kids_to ks _ q ⟨fun y hy => h1 y (List.mem_cons_of_mem _ hy), fun ho => ?_⟩
      have h3 := (h2 ho).1
      rw [List.map_cons, List.nodup_cons] at h3
      refine ⟨h3.2, fun y hy hm => ?_⟩
      rcases List.mem_cons.1 hm with e3 | hm
      · exact h3.1 (List.mem_map.2 ⟨y, hy, e3⟩)
      · exact (h2 ho).2 y (List.mem_cons_of_mem _ hy) hm
/-- What stands ahead of the rest is a right row. -/
def HasSeg (d : Nat) (o : Bool) : Prop := ∀ l r, rightV d o l = some r → ∃ p, l = p ++ r ∧ Seg d o p
theorem kids_of {d : Nat} {o : Bool} (hd : HasSeg d o) : ∀ (n : Nat) (ns : List (List UInt8)) (l r : List JV), kidsV (rightV d o) o n ns l = some r → ∃ ks, l = List.flatten ks ++ r ∧ ks.length = n ∧ KidsOk d o ns ks
  | 0, ns, l, r, h => ⟨[], by simpa [kidsV] using h, rfl, (fun _ h => by cases h), fun _ => ⟨List.nodup_nil, fun _ h => by cases h⟩⟩
  | n + 1, ns, [], r, h => by simp [kidsV] at h
  | n + 1, ns, x :: t, r, h => by
    rw [kidsV] at h
    split at h
    · cases h
    · rename_i hc
      cases hr : rightV d o (x :: t) with
      | none => rw [hr] at h; cases h
      | some u =>
        rw [hr] at h
        simp only [Option.bind_some] at h
        obtain ⟨p, e, hp⟩ := hd _ _ hr
        obtain ⟨ks, e2, hl, h1, h2⟩ := kids_of hd n _ u r h
        have hkk : kk p = x.2.1 := by
          cases p with
          | nil => exact absurd rfl hp.ne
          | cons y s =>
            rw [List.cons_append] at e
            injection e with e3 e4
            rw [e3]; rfl
        refine ⟨p :: ks, by rw [e, e2]; simp, by simp [hl], fun k hk => ?_, fun ho => ?_⟩
        · rcases List.mem_cons.1 hk with rfl | hk
          · exact hp
          · exact h1 k hk
        · obtain ⟨h3, h4⟩ := h2 ho
          refine ⟨?_, fun k hk => ?_⟩
          · rw [List.map_cons, List.nodup_cons]
            refine ⟨fun hm => ?_, h3⟩
            obtain ⟨y, hy, e5⟩ := List.mem_map.1 hm
            exact h4 y hy (by rw [e5, hkk]; exact List.mem_cons_self ..)
          · rcases List.mem_cons.1 hk with rfl | hk
            · rw [hkk]
              rw [ho] at hc
              simpa using hc
            · exact fun hm => h4 k hk (List.mem_cons_of_mem _ hm)
theorem has_seg : ∀ (d : Nat) (o : Bool), HasSeg d o
  | 0, o => fun l r h => by simp [rightV] at h
  | d + 1, o => fun l r h => by
    cases l with
    | nil => simp [rightV] at h
    | cons x t =>
      rw [rightV] at h
      split at h
      · rename_i hf
        obtain ⟨ks, e, hl, hk⟩ := kids_of (has_seg d (isObj x)) _ _ _ _ h
        refine ⟨x :: ks.flatten, by rw [e]; rfl, fun q => ?_⟩
        rw [List.cons_append, rightV, if_pos hf, ← hl]
        exact kids_to ks [] q hk
      · cases h
/-- What a right row is made of. -/
theorem seg_iff (d : Nat) (m : Bool) (p : List JV) : Seg (d + 1) m p ↔ ∃ x ks, p = x :: List.flatten ks ∧ fitV m x = true ∧ ks.length = x.2.2.2.toNat ∧ KidsOk d (isObj x) [] ks := by
  constructor
  · intro h
    have h1 := h []
    rw [List.append_nil] at h1
    cases p with
    | nil => exact absurd rfl h.ne
    | cons x t =>
      rw [rightV] at h1
      split at h1
      · rename_i hf
        obtain ⟨ks, e, hl, hk⟩ := kids_of (has_seg d (isObj x)) _ _ _ _ h1
        exact ⟨x, ks, by rw [e]; simp, hf, hl, hk⟩
      · cases h1
  · rintro ⟨x, ks, rfl, hf, hl, hk⟩ q
    rw [List.cons_append, rightV, if_pos hf, ← hl]
    exact kids_to ks [] q hk
theorem seg_right {d : Nat} {m : Bool} {p : List JV} : rightV d m p = some [] ↔ Seg d m p := by
  constructor
  · intro h
    obtain ⟨p', e, hs⟩ := has_seg d m p [] h
    rw [e, List.append_nil]
    exact hs
  · intro h
    have := h []
    rwa [List.append_nil] at this
theorem rightO_iff (l : List JV) : rightO l = true ↔ l.length ≤ 5000 ∧ Seg 50 false l := by
  unfold rightO
  rw [Bool.and_eq_true, decide_eq_true_eq, beq_iff_eq, seg_right]
theorem Seg.vals : ∀ {d : Nat} {m : Bool} {p : List JV}, Seg d m p → Vals 1 p
  | 0, m, p, h => by have := h []; simp [rightV] at this
  | d + 1, m, p, h => by
    obtain ⟨x, ks, rfl, hf, hl, hk, _⟩ := (seg_iff d m p).1 h
    have h0 := own_count (fit_own hf).1
    refine ⟨Nat.le_refl _, h0, ?_⟩
    have := Vals.flat fun k hk' => (hk k hk').vals
    rw [hl] at this
    simpa using this
theorem right_vals {l : List JV} (h : rightO l = true) : Vals 1 l := ((rightO_iff l).1 h).2.vals
theorem right_ne {l : List JV} (h : rightO l = true) : l ≠ [] := ((rightO_iff l).1 h).2.ne
/-- A row of another key is right, in an object. -/
theorem Seg.keyed {d : Nat} {m : Bool} {p : List JV} {key : List UInt8} (h : Seg d m p) (hk : validO key = true) : Seg d true (namedO p key) := by
  cases d with
  | zero => have := h []; simp [rightV] at this
  | succ d =>
    obtain ⟨x, ks, rfl, hf, hl, hks⟩ := (seg_iff d m p).1 h
    refine (seg_iff d true _).2 ⟨(x.1, key, x.2.2), ks, rfl, ?_, hl, hks⟩
    have := fit_own hf
    unfold fitV
    have e : ownO (x.1, key, x.2.2) = ownO x := rfl
    rw [e, this.1, hk]
    rfl
theorem Seg.unkeyed {d : Nat} {m : Bool} {p : List JV} (h : Seg d m p) : Seg d false (namedO p []) := by
  cases d with
  | zero => have := h []; simp [rightV] at this
  | succ d =>
    obtain ⟨x, ks, rfl, hf, hl, hks⟩ := (seg_iff d m p).1 h
    refine (seg_iff d false _).2 ⟨(x.1, [], x.2.2), ks, rfl, ?_, hl, hks⟩
    have := fit_own hf
    unfold fitV
    have e : ownO (x.1, [], x.2.2) = ownO x := rfl
    rw [e, this.1]
    rfl
theorem Seg.deeper {d : Nat} {m : Bool} {p : List JV} (h : Seg d m p) : Seg (d + 1) m p := by
  induction d generalizing m p with
  | zero => have := h []; simp [rightV] at this
  | succ d ih =>
    obtain ⟨x, ks, rfl, hf, hl, hks⟩ := (seg_iff d m p).1 h
    exact (seg_iff (d + 1) m _).2 ⟨x, ks, rfl, hf, hl, fun k hk => ih (hks.1 k hk), hks.2⟩
theorem Seg.keys : ∀ {d : Nat} {m : Bool} {p : List JV}, Seg d m p → ∀ x ∈ p, validO x.2.1 = true
  | 0, m, p, h => by have := h []; simp [rightV] at this
  | d + 1, m, p, h => by
    obtain ⟨x, ks, rfl, hf, hl, hk, _⟩ := (seg_iff d m p).1 h
    intro y hy
    rcases List.mem_cons.1 hy with rfl | hy
    · exact (fit_own hf).2.2
    · obtain ⟨k, hk', hyk⟩ := List.mem_flatten.1 hy
      exact (hk k hk').keys y hyk
end Go.Proofs.YtjopikfkgjbcgaaDoor
