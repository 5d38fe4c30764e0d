/- When a row is right: the document's recursion, and the program's stack; they are the same. No program in sight. -/
import Derived.Test.YtjopikfkgjbcgaaGreatDoorWb
import Derived.Test.YtjopikfkgjbcgaaGreatDoorNd
namespace Go.Proofs.YtjopikfkgjbcgaaGreatDoor
set_option linter.unnecessarySimpa false
set_option linter.unusedSimpArgs false
set_option linter.unusedVariables false
open Go.RowKit
/-- Is a value right by itself, but for what it has and for its key? -/
def ownO (x : JV) : Bool :=
  if x.1 < 0 ∨ x.1 > 6 ∨ x.2.2.2 < 0 ∨ (x.2.2.2 > 0 ∧ ¬ (x.1 = 5 ∨ x.1 = 6)) then false
  else if x.1 = 3 then decide (x.2.2.1 ≠ []) && decide (numO x.2.2.1 = x.2.2.1.length)
  else validO x.2.2.1 && (decide (x.2.2.1 = []) || decide (x.1 = 4))
def isObj (x : JV) : Bool := decide (x.1 = 6)
/-- Is a value right by itself, in an object or not? -/
def fitV (mem : Bool) (x : JV) : Bool := ownO x && (mem || decide (x.2.1 = [])) && validO x.2.1
/-- What stands behind so many values, of names that are none of those. -/
def kidsV (g : List JV → Option (List JV)) (obj : Bool) : Nat → List (List UInt8) → List JV → Option (List JV)
  | 0, _, l => some l
  | _ + 1, _, [] => none
  | n + 1, ns, x :: r => if (obj && ns.contains x.2.1) = true then none else (g (x :: r)).bind (kidsV g obj n (x.2.1 :: ns))
/-- What stands behind a right row. -/
def rightV : Nat → Bool → List JV → Option (List JV)
  | 0, _, _ => none
  | _ + 1, _, [] => none
  | d + 1, mem, x :: r => if fitV mem x = true then kidsV (rightV d (isObj x)) (isObj x) x.2.2.2.toNat [] r else none
/-- Is a row right? -/
def rightO (l : List JV) : Bool := decide (l.length ≤ 5000) && (rightV 50 false l == some [])
/-! ### The stack -/
abbrev Fr := Bool × Nat × List (List UInt8)
def popS : List Fr → List Fr
  | [] => []
  | (o, 0, ns) :: s => popS s
  | (o, n + 1, ns) :: s => (o, n + 1, ns) :: s
def stepS (s : List Fr) (x : JV) : Option (List Fr) :=
  match popS s with
  | [] => none
  | (o, n, ns) :: s' =>
    if (fitV o x && decide (s'.length + 1 ≤ 50) && !(o && ns.contains x.2.1)) = true then
      some (if x.2.2.2 > 0 then (isObj x, x.2.2.2.toNat, []) :: (o, n - 1, if o = true then x.2.1 :: ns else ns) :: s' else (o, n - 1, if o = true then x.2.1 :: ns else ns) :: s')
    else none
def goS : List Fr → List JV → Bool
  | s, [] => s.all fun f => f.2.1 == 0
  | s, x :: r => match stepS s x with | none => false | some s' => goS s' r
theorem popS_pop (s : List Fr) : popS (popS s) = popS s := by
  induction s with
  | nil => rfl
  | cons f s ih =>
    obtain ⟨o, n, ns⟩ := f
    cases n with
    | zero => simpa [popS] using ih
    | succ n => rfl
theorem popS_all (s : List Fr) : ((popS s).all fun f => f.2.1 == 0) = s.all fun f => f.2.1 == 0 := by
  induction s with
  | nil => rfl
  | cons f s ih =>
    obtain ⟨o, n, ns⟩ := f
    cases n with
    | zero => simpa [popS] using ih
    | succ n => rfl
theorem goS_pop (s : List Fr) (l : List JV) : goS (popS s) l = goS s l := by
  cases l with
  | nil => exact popS_all s
  | cons x r => unfold goS stepS; rw [popS_pop]
theorem goS_zero (o : Bool) (ns : List (List UInt8)) (s : List Fr) (l : List JV) : goS ((o, 0, ns) :: s) l = goS s l := by
  rw [← goS_pop ((o, 0, ns) :: s), ← goS_pop s]
  rfl
/-- One value, and those that it has. -/
def OneS (d : Nat) (mem : Bool) : Prop := ∀ (l : List JV) (n : Nat) (ns : List (List UInt8)) (s : List Fr), s.length + 1 + d = 51 →
  goS ((mem, n + 1, ns) :: s) l = if (mem && ns.contains (l.headD zJ).2.1) = true then false else match rightV d mem l with | none => false | some r => goS ((mem, n, if mem = true then (l.headD zJ).2.1 :: ns else ns) :: s) r
theorem kids_go (d : Nat) (o : Bool) (ho : OneS d o) : ∀ (n : Nat) (ns ms : List (List UInt8)) (l : List JV) (s : List Fr), (o = true → ns = ms) → s.length + 1 + d = 51 →
    goS ((o, n, ns) :: s) l = match kidsV (rightV d o) o n ms l with | none => false | some r => goS s r
  | 0, ns, ms, l, s, _, _ => goS_zero o ns s l
  | n + 1, ns, ms, [], s, _, _ => by simp [kidsV, goS]
  | n + 1, ns, ms, x :: r, s, hn, hs => by
    rw [ho _ _ _ _ hs]
    have e : (o && ns.contains x.2.1) = (o && ms.contains x.2.1) := by
      cases o with
      | false => rfl
      | true => rw [hn rfl]
    show (if (o && ns.contains x.2.1) = true then _ else _) = _
    rw [kidsV, e]
    by_cases hc : (o && ms.contains x.2.1) = true
    · rw [if_pos hc, if_pos hc]
    · rw [if_neg hc, if_neg hc]
      cases rightV d o (x :: r) with
      | none => rfl
      | some q =>
        show goS ((o, n, if o = true then x.2.1 :: ns else ns) :: s) q = _
        rw [kids_go d o ho n _ (x.2.1 :: ms) q s (fun h => by rw [if_pos h, hn h]) hs]
        rfl
theorem one_go : ∀ (d : Nat) (mem : Bool), OneS d mem
  | 0, mem => by
    intro l n ns s hs
    cases l with
    | nil => simp [goS, rightV]
    | cons x r =>
      have : stepS ((mem, n + 1, ns) :: s) x = none := by
        unfold stepS popS
        simp only
        rw [decide_eq_false (by omega)]
        simp
      unfold goS
      rw [this]
      simp [rightV]
  | d + 1, mem => by
    intro l n ns s hs
    cases l with
    | nil => simp [goS, rightV]
    | cons x r =>
      have hd : decide (s.length + 1 ≤ 50) = true := decide_eq_true (by omega)
      show (match stepS ((mem, n + 1, ns) :: s) x with | none => false | some s' => goS s' r) = if (mem && ns.contains x.2.1) = true then false else _
      unfold stepS popS
      simp only [hd, Bool.and_true, Nat.add_sub_cancel, List.headD_cons]
      rw [rightV]
      by_cases hf : fitV mem x = true
      · by_cases hc : (mem && ns.contains x.2.1) = true
        · rw [hf, hc]; simp
        · have hc' : (mem && ns.contains x.2.1) = false := by simpa using hc
          rw [hf, hc', if_pos (by rfl), if_pos rfl]
          by_cases h0 : x.2.2.2 > 0
          · rw [if_pos h0]
            exact kids_go d (isObj x) (one_go d _) _ _ _ _ _ (fun _ => rfl) (by show s.length + 1 + 1 + d = 51; omega)
          · have hz : x.2.2.2.toNat = 0 := by omega
            rw [if_neg h0, hz]
            rfl
      · have hf' : fitV mem x = false := by simpa using hf
        rw [hf']
        simp
/-- The program's answer is the document's. -/
theorem goS_right (l : List JV) : goS [(false, 1, [])] l = (rightV 50 false l == some []) := by
  rw [one_go 50 false l 0 [] [] rfl]
  simp only [Bool.false_and, Bool.false_eq_true, if_false]
  cases rightV 50 false l with
  | none => rfl
  | some r =>
    show goS [(false, 0, [])] r = _
    rw [goS_zero]
    cases r with
    | nil => rfl
    | cons x r => rfl
end Go.Proofs.YtjopikfkgjbcgaaGreatDoor
/-! What a right row is made of: its head, and right rows one behind the other; where these begin and end. No program in sight. -/
namespace Go.Proofs.YtjopikfkgjbcgaaGreatDoor
set_option linter.unnecessarySimpa false
set_option linter.unusedSimpArgs false
set_option linter.unusedVariables false
open Go.RowKit
/-- So many values, one behind the other, by their counts alone. -/
def Vals : Nat → List JV → Prop
  | w, [] => w = 0
  | w, x :: r => 1 ≤ w ∧ 0 ≤ x.2.2.2 ∧ Vals (w - 1 + x.2.2.2.toNat) r
theorem Vals.le : ∀ {p : List JV} {w : Nat}, Vals w p → w ≤ p.length
  | [], w, h => by unfold Vals at h; omega
  | x :: r, w, ⟨h1, h2, h3⟩ => by have := Vals.le h3; rw [List.length_cons]; omega
theorem Vals.append : ∀ {p q : List JV} {a b : Nat}, Vals a p → Vals b q → Vals (a + b) (p ++ q)
  | [], q, a, b, h, k => by unfold Vals at h; subst h; simpa using k
  | x :: r, q, a, b, ⟨h1, h2, h3⟩, k => ⟨by omega, h2, by
    have := Vals.append h3 k
    rwa [show a - 1 + x.2.2.2.toNat + b = a + b - 1 + x.2.2.2.toNat by omega] at this⟩
theorem Vals.split : ∀ {p : List JV} {a b : Nat}, Vals (a + b) p → ∃ r q, p = r ++ q ∧ Vals a r ∧ Vals b q
  | p, 0, b, h => ⟨[], p, rfl, rfl, by simpa using h⟩
  | [], a + 1, b, h => by unfold Vals at h; omega
  | x :: r, a + 1, b, ⟨h1, h2, h3⟩ => by
    rw [show a + 1 + b - 1 + x.2.2.2.toNat = (a + x.2.2.2.toNat) + b by omega] at h3
    obtain ⟨s, q, e, k1, k2⟩ := Vals.split h3
    refine ⟨x :: s, q, by rw [e]; rfl, ⟨by omega, h2, ?_⟩, k2⟩
    rwa [show a + 1 - 1 + x.2.2.2.toNat = a + x.2.2.2.toNat by omega]
theorem Vals.flat : ∀ {ks : List (List JV)}, (∀ k ∈ ks, Vals 1 k) → Vals ks.length ks.flatten
  | [], _ => rfl
  | k :: ks, h => by
    have := Vals.append (h k (List.mem_cons_self ..)) (Vals.flat (ks := ks) fun x hx => h x (List.mem_cons_of_mem _ hx))
    rwa [Nat.add_comm] at this
theorem Vals.kids : ∀ {c : Nat} {p : List JV} {b : Nat}, Vals (c + b) p → ∃ ks q, p = List.flatten ks ++ q ∧ ks.length = c ∧ (∀ k ∈ ks, Vals 1 k) ∧ Vals b q
  | 0, p, b, h => ⟨[], p, rfl, rfl, (fun _ h => by cases h), by simpa using h⟩
  | c + 1, p, b, h => by
    rw [show c + 1 + b = 1 + (c + b) by omega] at h
    obtain ⟨r, q, e, h1, h2⟩ := Vals.split h
    obtain ⟨ks, q', e', k1, k2, k3⟩ := Vals.kids h2
    refine ⟨r :: ks, q', by rw [e, e']; simp, by simp [k1], fun k hk => ?_, k3⟩
    rcases List.mem_cons.1 hk with rfl | hk
    · exact h1
    · exact k2 k hk
theorem Vals.drop : ∀ {p : List JV} {w : Nat} (t : Nat), Vals w p → ∃ w', Vals w' (p.drop t)
  | p, w, 0, h => ⟨w, h⟩
  | [], w, t + 1, h => ⟨0, by simp [Vals]⟩
  | x :: r, w, t + 1, ⟨_, _, h3⟩ => Vals.drop t h3
theorem Vals.pos {p : List JV} {w : Nat} (h : Vals w p) (hp : p ≠ []) : 1 ≤ w := by
  cases p with
  | nil => exact absurd rfl hp
  | cons x r => exact h.1
theorem Vals.ne {p : List JV} {w : Nat} (h : Vals w p) (hw : 1 ≤ w) : p ≠ [] := by
  rintro rfl
  unfold Vals at h
  omega
/-- Where so many values end. -/
theorem Vals.ends (n : Nat) : ∀ {p q : List JV} {w k : Nat}, Vals w p → p.length ≤ n → endS n (p ++ q) w k = ((k + p.length : Nat) : Int)
  | [], q, w, k, h, _ => by
    unfold Vals at h
    subst h
    rw [endS_stop _ _ _ _ (by decide)]
    simp
  | x :: r, q, w, k, ⟨h1, h2, h3⟩, hn => by
    have hle := h3.le
    rw [List.length_cons] at hn
    rw [List.cons_append, endS, if_pos (by omega), if_neg (by omega)]
    rw [show (w : Int) - 1 + x.2.2.2 = ((w - 1 + x.2.2.2.toNat : Nat) : Int) by omega]
    rw [Vals.ends n h3 (by omega), List.length_cons]
    congr 1
    omega
/-- Where a value ends that stands in a row. -/
theorem endO_at {l a p q : List JV} (e : l = a ++ (p ++ q)) (hv : Vals 1 p) : endO l a.length = ((a.length + p.length : Nat) : Int) := by
  have hpos := hv.le
  have hl : l.length = a.length + (p.length + q.length) := by rw [e]; simp
  unfold endO
  rw [if_neg (by omega)]
  have : l.drop ((a.length : Int)).toNat = p ++ q := by rw [e]; simp
  rw [this]
  exact Vals.ends l.length hv (by omega)
/-- The places of so many values: each one's end is the next one's. -/
def itersE (l : List JV) : Nat → Int → List Int
  | 0, _ => []
  | c + 1, k => k :: itersE l c (endO l k)
/-- The places where rows begin that stand one behind the other. -/
def posK : Nat → List (List JV) → List Int
  | _, [] => []
  | k, p :: ks => (k : Int) :: posK (k + p.length) ks
theorem posK_len : ∀ (k : Nat) (ks : List (List JV)), (posK k ks).length = ks.length
  | _, [] => rfl
  | k, p :: ks => by simp [posK, posK_len]
theorem iters_at {l : List JV} : ∀ {ks : List (List JV)} {a q : List JV}, l = a ++ (ks.flatten ++ q) → (∀ k ∈ ks, Vals 1 k) → itersE l ks.length a.length = posK a.length ks
  | [], a, q, _, _ => rfl
  | p :: ks, a, q, e, h => by
    have e1 : l = a ++ (p ++ (ks.flatten ++ q)) := by rw [e]; simp
    have e2 : l = (a ++ p) ++ (ks.flatten ++ q) := by rw [e]; simp
    rw [List.length_cons, itersE, posK, endO_at e1 (h p (List.mem_cons_self ..))]
    have := iters_at e2 fun k hk => h k (List.mem_cons_of_mem _ hk)
    rw [List.length_append] at this
    rw [this]
theorem posK_get : ∀ (k : Nat) (ks : List (List JV)) (i : Nat), i < ks.length → (posK k ks)[i]? = some ((k + (ks.take i).flatten.length : Nat) : Int)
  | _, [], i, h => by cases h
  | k, p :: ks, 0, _ => by simp [posK]
  | k, p :: ks, i + 1, h => by
    rw [List.length_cons] at h
    rw [posK, List.getElem?_cons_succ, posK_get _ ks i (by omega), List.take_succ_cons, List.flatten_cons, List.length_append]
    congr 2
    omega
theorem split_at {α : Type} (ks : List α) (i : Nat) (h : i < ks.length) : ks = ks.take i ++ (ks[i] :: ks.drop (i + 1)) := by
  rw [← List.drop_eq_getElem_cons h, List.take_append_drop]
theorem flat_split (ks : List (List JV)) (i : Nat) (h : i < ks.length) : ks.flatten = (ks.take i).flatten ++ (ks[i] ++ (ks.drop (i + 1)).flatten) := by
  have := congrArg List.flatten (split_at ks i h)
  rw [List.flatten_append, List.flatten_cons] at this
  exact this
/-! ### Right rows -/
theorem own_count {x : JV} (h : ownO x = true) : 0 ≤ x.2.2.2 := by
  unfold ownO at h
  split at h
  · cases h
  · rename_i q; omega
theorem fit_own {m : Bool} {x : JV} (h : fitV m x = true) : ownO x = true ∧ (m = true ∨ x.2.1 = []) ∧ validO x.2.1 = true := by
  unfold fitV at h
  simp only [Bool.and_eq_true, Bool.or_eq_true, decide_eq_true_eq] at h
  exact ⟨h.1.1, h.1.2, h.2⟩
/-- A right row. -/
def Seg (d : Nat) (mem : Bool) (p : List JV) : Prop := ∀ q, rightV d mem (p ++ q) = some q
/-- A row's key. -/
def kk (p : List JV) : List UInt8 := (p.headD zJ).2.1
def KidsOk (d : Nat) (o : Bool) (ns : List (List UInt8)) (ks : List (List JV)) : Prop := (∀ k ∈ ks, Seg d o k) ∧ (o = true → (ks.map kk).Nodup ∧ ∀ k ∈ ks, kk k ∉ ns)
theorem Seg.ne {d : Nat} {m : Bool} {p : List JV} (h : Seg d m p) : p ≠ [] := by
  rintro rfl
  have h1 := h []
  cases d <;> simp [rightV] at h1
theorem kids_to {d : Nat} {o : Bool} : ∀ (ks : List (List JV)) (ns : List (List UInt8)) (q : List JV), KidsOk d o ns ks → kidsV (rightV d o) o ks.length ns (ks.flatten ++ q) = some q
  | [], ns, q, _ => rfl
  | k :: ks, ns, q, ⟨h1, h2⟩ => by
    have hk := h1 k (List.mem_cons_self ..)
    cases k with
    | nil => exact absurd rfl hk.ne
    | cons x r =>
      have hns : (o && ns.contains x.2.1) = false := by
        cases o with
        | false => rfl
        | true =>
          have := (h2 rfl).2 _ (List.mem_cons_self ..)
          simpa [kk] using this
      have e : ((x :: r) :: ks).flatten ++ q = x :: (r ++ (ks.flatten ++ q)) := by simp
      rw [e, List.length_cons, kidsV, hns]
      have e2 : x :: (r ++ (ks.flatten ++ q)) = (x :: r) ++ (ks.flatten ++ q) := by simp
      rw [e2, hk]
      simp only [Bool.false_eq_true, if_false, Option.bind_some]
      refine kids_to ks _ q ⟨fun y hy => h1 y (List.mem_cons_of_mem _ hy), fun ho => ?_⟩
      have h3 := (h2 ho).1
      rw [List.map_cons, List.nodup_cons] at h3
      refine ⟨h3.2, fun y hy hm => ?_⟩
      rcases List.mem_cons.1 hm with e3 | hm
      · exact h3.1 (List.mem_map.2 ⟨y, hy, e3⟩)
      · exact (h2 ho).2 y (List.mem_cons_of_mem _ hy) hm
/-- What stands ahead of the rest is a right row. -/
def HasSeg (d : Nat) (o : Bool) : Prop := ∀ l r, rightV d o l = some r → ∃ p, l = p ++ r ∧ Seg d o p
theorem kids_of {d : Nat} {o : Bool} (hd : HasSeg d o) : ∀ (n : Nat) (ns : List (List UInt8)) (l r : List JV), kidsV (rightV d o) o n ns l = some r → ∃ ks, l = List.flatten ks ++ r ∧ ks.length = n ∧ KidsOk d o ns ks
  | 0, ns, l, r, h => ⟨[], by simpa [kidsV] using h, rfl, (fun _ h => by cases h), fun _ => ⟨List.nodup_nil, fun _ h => by cases h⟩⟩
  | n + 1, ns, [], r, h => by simp [kidsV] at h
  | n + 1, ns, x :: t, r, h => by
    rw [kidsV] at h
    split at h
    · cases h
    · rename_i hc
      cases hr : rightV d o (x :: t) with
      | none => rw [hr] at h; cases h
      | some u =>
        rw [hr] at h
        simp only [Option.bind_some] at h
        obtain ⟨p, e, hp⟩ := hd _ _ hr
        obtain ⟨ks, e2, hl, h1, h2⟩ := kids_of hd n _ u r h
        have hkk : kk p = x.2.1 := by
          cases p with
          | nil => exact absurd rfl hp.ne
          | cons y s =>
            rw [List.cons_append] at e
            injection e with e3 e4
            rw [e3]; rfl
        refine ⟨p :: ks, by rw [e, e2]; simp, by simp [hl], fun k hk => ?_, fun ho => ?_⟩
        · rcases List.mem_cons.1 hk with rfl | hk
          · exact hp
          · exact h1 k hk
        · obtain ⟨h3, h4⟩ := h2 ho
          refine ⟨?_, fun k hk => ?_⟩
          · rw [List.map_cons, List.nodup_cons]
            refine ⟨fun hm => ?_, h3⟩
            obtain ⟨y, hy, e5⟩ := List.mem_map.1 hm
            exact h4 y hy (by rw [e5, hkk]; exact List.mem_cons_self ..)
          · rcases List.mem_cons.1 hk with rfl | hk
            · rw [hkk]
              rw [ho] at hc
              simpa using hc
            · exact fun hm => h4 k hk (List.mem_cons_of_mem _ hm)
theorem has_seg : ∀ (d : Nat) (o : Bool), HasSeg d o
  | 0, o => fun l r h => by simp [rightV] at h
  | d + 1, o => fun l r h => by
    cases l with
    | nil => simp [rightV] at h
    | cons x t =>
      rw [rightV] at h
      split at h
      · rename_i hf
        obtain ⟨ks, e, hl, hk⟩ := kids_of (has_seg d (isObj x)) _ _ _ _ h
        refine ⟨x :: ks.flatten, by rw [e]; rfl, fun q => ?_⟩
        rw [List.cons_append, rightV, if_pos hf, ← hl]
        exact kids_to ks [] q hk
      · cases h
/-- What a right row is made of. -/
theorem seg_iff (d : Nat) (m : Bool) (p : List JV) : Seg (d + 1) m p ↔ ∃ x ks, p = x :: List.flatten ks ∧ fitV m x = true ∧ ks.length = x.2.2.2.toNat ∧ KidsOk d (isObj x) [] ks := by
  constructor
  · intro h
    have h1 := h []
    rw [List.append_nil] at h1
    cases p with
    | nil => exact absurd rfl h.ne
    | cons x t =>
      rw [rightV] at h1
      split at h1
      · rename_i hf
        obtain ⟨ks, e, hl, hk⟩ := kids_of (has_seg d (isObj x)) _ _ _ _ h1
        exact ⟨x, ks, by rw [e]; simp, hf, hl, hk⟩
      · cases h1
  · rintro ⟨x, ks, rfl, hf, hl, hk⟩ q
    rw [List.cons_append, rightV, if_pos hf, ← hl]
    exact kids_to ks [] q hk
theorem seg_right {d : Nat} {m : Bool} {p : List JV} : rightV d m p = some [] ↔ Seg d m p := by
  constructor
  · intro h
    obtain ⟨p', e, hs⟩ := has_seg d m p [] h
    rw [e, List.append_nil]
    exact hs
  · intro h
    have := h []
    rwa [List.append_nil] at this
theorem rightO_iff (l : List JV) : rightO l = true ↔ l.length ≤ 5000 ∧ Seg 50 false l := by
  unfold rightO
  rw [Bool.and_eq_true, decide_eq_true_eq, beq_iff_eq, seg_right]
theorem Seg.vals : ∀ {d : Nat} {m : Bool} {p : List JV}, Seg d m p → Vals 1 p
  | 0, m, p, h => by have := h []; simp [rightV] at this
  | d + 1, m, p, h => by
    obtain ⟨x, ks, rfl, hf, hl, hk, _⟩ := (seg_iff d m p).1 h
    have h0 := own_count (fit_own hf).1
    refine ⟨Nat.le_refl _, h0, ?_⟩
    have := Vals.flat fun k hk' => (hk k hk').vals
    rw [hl] at this
    simpa using this
theorem right_vals {l : List JV} (h : rightO l = true) : Vals 1 l := ((rightO_iff l).1 h).2.vals
theorem right_ne {l : List JV} (h : rightO l = true) : l ≠ [] := ((rightO_iff l).1 h).2.ne
/-- A row of another key is right, in an object. -/
theorem Seg.keyed {d : Nat} {m : Bool} {p : List JV} {key : List UInt8} (h : Seg d m p) (hk : validO key = true) : Seg d true (namedO p key) := by
  cases d with
  | zero => have := h []; simp [rightV] at this
  | succ d =>
    obtain ⟨x, ks, rfl, hf, hl, hks⟩ := (seg_iff d m p).1 h
    refine (seg_iff d true _).2 ⟨(x.1, key, x.2.2), ks, rfl, ?_, hl, hks⟩
    have := fit_own hf
    unfold fitV
    have e : ownO (x.1, key, x.2.2) = ownO x := rfl
    rw [e, this.1, hk]
    rfl
theorem Seg.unkeyed {d : Nat} {m : Bool} {p : List JV} (h : Seg d m p) : Seg d false (namedO p []) := by
  cases d with
  | zero => have := h []; simp [rightV] at this
  | succ d =>
    obtain ⟨x, ks, rfl, hf, hl, hks⟩ := (seg_iff d m p).1 h
    refine (seg_iff d false _).2 ⟨(x.1, [], x.2.2), ks, rfl, ?_, hl, hks⟩
    have := fit_own hf
    unfold fitV
    have e : ownO (x.1, [], x.2.2) = ownO x := rfl
    rw [e, this.1]
    rfl
theorem Seg.deeper {d : Nat} {m : Bool} {p : List JV} (h : Seg d m p) : Seg (d + 1) m p := by
  induction d generalizing m p with
  | zero => have := h []; simp [rightV] at this
  | succ d ih =>
    obtain ⟨x, ks, rfl, hf, hl, hks⟩ := (seg_iff d m p).1 h
    exact (seg_iff (d + 1) m _).2 ⟨x, ks, rfl, hf, hl, fun k hk => ih (hks.1 k hk), hks.2⟩
theorem Seg.keys : ∀ {d : Nat} {m : Bool} {p : List JV}, Seg d m p → ∀ x ∈ p, validO x.2.1 = true
  | 0, m, p, h => by have := h []; simp [rightV] at this
  | d + 1, m, p, h => by
    obtain ⟨x, ks, rfl, hf, hl, hk, _⟩ := (seg_iff d m p).1 h
    intro y hy
    rcases List.mem_cons.1 hy with rfl | hy
    · exact (fit_own hf).2.2
    · obtain ⟨k, hk', hyk⟩ := List.mem_flatten.1 hy
      exact (hk k hk').keys y hyk
end Go.Proofs.YtjopikfkgjbcgaaGreatDoor
/-! Places, members, rows cut out, set, dropped, made: what they are, told of lists alone. No program in sight. -/
namespace Go.Proofs.YtjopikfkgjbcgaaGreatDoor
set_option linter.unnecessarySimpa false
set_option linter.unusedSimpArgs false
set_option linter.unusedVariables false
open Go.RowKit
def objO (l : List JV) : Bool := rightO l && isObj (l.headD zJ)
def wholeO (l : List JV) : List JV := if rightO l = true then l else []
/-- Is there such a place of a right row? -/
def isPl (l : List JV) (at0 : Int) : Bool := decide (0 ≤ at0) && decide (at0 < l.length) && rightO l
def placesO (l : List JV) (at0 : Int) : List Int := if isPl l at0 = true then itersE l (l.getD at0.toNat zJ).2.2.2.toNat (at0 + 1) else []
def keyAt (l : List JV) (k : Int) : List UInt8 := (l.getD k.toNat zJ).2.1
def getO (l : List JV) (at0 : Int) (key : List UInt8) : Int := match (placesO l at0).find? (fun k => keyAt l k == key) with | none => -1 | some k => if (l.getD at0.toNat zJ).1 = 6 then k else -1
def itemO (l : List JV) (at0 k : Int) : Int := if k < 0 ∨ k ≥ (placesO l at0).length then -1 else (placesO l at0).getD k.toNat 0
def cutO (l : List JV) (at0 : Int) : List JV := if isPl l at0 = true then namedO ((l.take (endO l at0).toNat).drop at0.toNat) [] else []
def plusC (l : List JV) (d : Int) : List JV := match l with | [] => [] | x :: r => (x.1, x.2.1, x.2.2.1, x.2.2.2 + d) :: r
def setO (l : List JV) (key : List UInt8) (v : List JV) : List JV :=
  if objO l = false ∨ rightO v = false then [] else if getO l 0 key ≥ 0 then wholeO (l.take (getO l 0 key).toNat ++ (namedO v key ++ l.drop (endO l (getO l 0 key)).toNat)) else wholeO (plusC (l ++ namedO v key) 1)
def dropO (l : List JV) (key : List UInt8) : List JV :=
  if objO l = false then [] else if getO l 0 key < 0 then l else plusC (l.take (getO l 0 key).toNat ++ l.drop (endO l (getO l 0 key)).toNat) (-1)
theorem isPl_iff {l : List JV} {at0 : Int} : isPl l at0 = true ↔ 0 ≤ at0 ∧ at0 < l.length ∧ rightO l = true := by
  unfold isPl
  simp only [Bool.and_eq_true, decide_eq_true_eq, and_assoc]
/-- A place in a right row: what stands there, what it has, and what stands behind. -/
theorem place_split {l : List JV} {k : Nat} (hr : rightO l = true) (hk : k < l.length) : ∃ ks q, l = l.take (k + 1) ++ (List.flatten ks ++ q) ∧ ks.length = (l.getD k zJ).2.2.2.toNat ∧ (∀ p ∈ ks, Vals 1 p) := by
  obtain ⟨w, hw⟩ := (right_vals hr).drop k
  have e : l.drop k = l.getD k zJ :: l.drop (k + 1) := by
    rw [List.drop_eq_getElem_cons hk, List.getD_eq_getElem?_getD, List.getElem?_eq_getElem hk]; rfl
  rw [e] at hw
  obtain ⟨h1, h2, h3⟩ := hw
  rw [Nat.add_comm] at h3
  obtain ⟨ks, q, e2, hl, hv, _⟩ := h3.kids
  exact ⟨ks, q, by rw [← e2, List.take_append_drop], hl, hv⟩
theorem places_pos {l a q : List JV} {ks : List (List JV)} {k : Nat} (hr : rightO l = true) (hk : k < l.length) (e : l = a ++ (List.flatten ks ++ q)) (ha : a.length = k + 1) (hl : ks.length = (l.getD k zJ).2.2.2.toNat) (hv : ∀ p ∈ ks, Vals 1 p) : placesO l k = posK (k + 1) ks := by
  unfold placesO
  rw [if_pos (isPl_iff.2 ⟨by omega, by omega, hr⟩), Int.toNat_natCast, ← hl]
  have := iters_at e hv
  rw [ha] at this
  exact_mod_cast this
theorem posK_lt : ∀ (k : Nat) (ks : List (List JV)), (∀ p ∈ ks, p ≠ []) → ∀ i ∈ posK k ks, (k : Int) ≤ i ∧ i < ((k + ks.flatten.length : Nat) : Int)
  | _, [], _, i, hi => by cases hi
  | k, p :: ks, hp, i, hi => by
    have h1 := List.length_pos_iff.2 (hp p (List.mem_cons_self ..))
    rw [List.flatten_cons, List.length_append]
    rw [posK] at hi
    rcases List.mem_cons.1 hi with rfl | hi
    · omega
    · have := posK_lt (k + p.length) ks (fun x hx => hp x (List.mem_cons_of_mem _ hx)) i hi
      omega
theorem places_lt {l : List JV} {at0 k : Int} (h : k ∈ placesO l at0) : 0 ≤ k ∧ k < l.length := by
  unfold placesO at h
  split at h
  · rename_i hp
    obtain ⟨h0, h1, hr⟩ := isPl_iff.1 hp
    obtain ⟨n, rfl⟩ : ∃ n : Nat, at0 = n := ⟨at0.toNat, by omega⟩
    have hn : n < l.length := by omega
    obtain ⟨ks, q, e, hl, hv⟩ := place_split hr hn
    have hla : (l.take (n + 1)).length = n + 1 := by rw [List.length_take]; omega
    have h2 := iters_at e hv
    rw [Int.toNat_natCast, ← hl] at h
    rw [hla] at h2
    have h3 : k ∈ posK (n + 1) ks := by rw [← h2]; exact_mod_cast h
    have h4 := posK_lt _ _ (fun p hp => (hv p hp).ne (Nat.le_refl _)) k h3
    have h5 : l.length = n + 1 + (ks.flatten.length + q.length) := by
      conv => lhs; rw [e]
      rw [List.length_append, hla, List.length_append]
    omega
  · cases h
theorem getO_range (l : List JV) (at0 : Int) (key : List UInt8) : -1 ≤ getO l at0 key ∧ (getO l at0 key < l.length ∨ getO l at0 key = -1) := by
  unfold getO
  cases hf : (placesO l at0).find? (fun k => keyAt l k == key) with
  | none => simp
  | some k =>
    have := places_lt (List.mem_of_find?_eq_some hf)
    simp only
    split <;> omega
theorem endS_range (n : Nat) : ∀ (l : List JV) (w : Int) (k : Nat), endS n l w k = -1 ∨ ((k : Int) ≤ endS n l w k ∧ endS n l w k ≤ ((k + l.length : Nat) : Int))
  | [], w, k => by unfold endS; split <;> simp
  | x :: r, w, k => by
    unfold endS
    split
    · split
      · exact .inl rfl
      · rcases endS_range n r (w - 1 + x.2.2.2) (k + 1) with h | h
        · exact .inl h
        · right; rw [List.length_cons]; omega
    · right; rw [List.length_cons]; omega
theorem endO_range (l : List JV) (k : Int) : endO l k = -1 ∨ (k ≤ endO l k ∧ 0 ≤ k ∧ endO l k ≤ l.length) := by
  unfold endO
  split
  · exact .inl rfl
  · rcases endS_range l.length (l.drop k.toNat) 1 k.toNat with h | h
    · exact .inl h
    · right; rw [List.length_drop] at h; omega
/-- In a right row each place has an end. -/
theorem endO_right {l : List JV} {k : Nat} (hr : rightO l = true) (hk : k < l.length) : (k : Int) < endO l k ∧ endO l k ≤ l.length := by
  obtain ⟨w, hw⟩ := (right_vals hr).drop k
  have h1 := hw.pos (by rw [Ne, List.drop_eq_nil_iff]; omega)
  rw [show w = 1 + (w - 1) by omega] at hw
  obtain ⟨p, q, e, hp, _⟩ := hw.split
  have e2 : l = l.take k ++ (p ++ q) := by rw [← e, List.take_append_drop]
  have hla : (l.take k).length = k := by rw [List.length_take]; omega
  have h2 := endO_at e2 hp
  rw [hla] at h2
  have h3 := hp.le
  have h4 : l.length = k + (p.length + q.length) := by
    conv => lhs; rw [e2]
    rw [List.length_append, hla, List.length_append]
  omega
/-! ### Objects -/
/-- A right object: its head, and its members. -/
structure ObjR (l : List JV) (x : JV) (ks : List (List JV)) : Prop where
  eq : l = x :: ks.flatten
  right : rightO l = true
  obj : isObj x = true
  len : ks.length = x.2.2.2.toNat
  vals : ∀ k ∈ ks, Vals 1 k
theorem obj_split {l : List JV} (h : objO l = true) : ∃ x ks, ObjR l x ks ∧ fitV false x = true ∧ KidsOk 49 true [] ks := by
  unfold objO at h
  rw [Bool.and_eq_true] at h
  obtain ⟨hl, hs⟩ := (rightO_iff l).1 h.1
  obtain ⟨x, ks, rfl, hf, hn, hk⟩ := (seg_iff 49 false l).1 hs
  have ho : isObj x = true := h.2
  rw [ho] at hk
  exact ⟨x, ks, ⟨rfl, h.1, ho, hn, fun k hk' => (hk.1 k hk').vals⟩, hf, hk⟩
theorem ObjR.obj0 {l : List JV} {x : JV} {ks : List (List JV)} (o : ObjR l x ks) : objO l = true := by
  unfold objO
  rw [o.right, o.eq]
  exact o.obj
theorem keyAt_head {l a p q : List JV} (e : l = a ++ (p ++ q)) (hp : p ≠ []) : keyAt l (a.length : Int) = kk p := by
  cases p with
  | nil => exact absurd rfl hp
  | cons y r =>
    unfold keyAt kk
    rw [e, Int.toNat_natCast]
    simp
theorem ObjR.getAt {l : List JV} {x : JV} {A B : List (List JV)} {p : List JV} {key : List UInt8} (o : ObjR l x (A ++ p :: B)) (hA : ∀ a ∈ A, kk a ≠ key) (hp : kk p = key) : getO l 0 key = ((1 + A.flatten.length : Nat) : Int) ∧ endO l (getO l 0 key) = ((1 + A.flatten.length + p.length : Nat) : Int) := by
  have e1 : l = (x :: A.flatten) ++ (p ++ B.flatten) := by rw [o.eq]; simp
  have hpv := o.vals p (by simp)
  have hpl : placesO l 0 = posK 1 (A ++ p :: B) := by
    have h0 : 0 < l.length := by rw [o.eq]; simp
    have hg : l.getD 0 zJ = x := by rw [o.eq]; rfl
    exact places_pos (a := [x]) (q := []) (k := 0) o.right h0 (by rw [o.eq]; simp) rfl (by rw [o.len, hg]) o.vals
  have hf : ∀ (A : List (List JV)) (a : List JV), l = a ++ ((A ++ p :: B).flatten) → (∀ y ∈ A, kk y ≠ key ∧ y ≠ []) → (posK a.length (A ++ p :: B)).find? (fun k => keyAt l k == key) = some ((a.length + A.flatten.length : Nat) : Int) := by
    intro A
    induction A with
    | nil =>
      intro a e _
      have e2 : l = a ++ (p ++ B.flatten) := by rw [e]; simp
      rw [List.nil_append, posK, List.find?_cons, keyAt_head e2 (hpv.ne (Nat.le_refl _)), hp]
      simp
    | cons y A ih =>
      intro a e h
      have e2 : l = a ++ (y ++ (A ++ p :: B).flatten) := by rw [e]; simp
      obtain ⟨h1, h2⟩ := h y (List.mem_cons_self ..)
      rw [List.cons_append, posK, List.find?_cons, keyAt_head e2 h2, beq_eq_false_iff_ne.2 h1]
      have := ih (a ++ y) (by rw [e]; simp) fun z hz => h z (List.mem_cons_of_mem _ hz)
      rw [List.length_append] at this
      simp only
      rw [this, List.flatten_cons, List.length_append]
      congr 2
      omega
  have h1 : getO l 0 key = ((1 + A.flatten.length : Nat) : Int) := by
    unfold getO
    rw [hpl]
    have := hf A [x] (by rw [o.eq]; simp) fun y hy => ⟨hA y hy, (o.vals y (by simp [hy])).ne (Nat.le_refl _)⟩
    rw [show ([x] : List JV).length = 1 from rfl] at this
    rw [this]
    simp only
    have hg : l.getD (Int.toNat 0) zJ = x := by rw [o.eq]; rfl
    rw [hg, if_pos (by simpa [isObj] using o.obj)]
  refine ⟨h1, ?_⟩
  rw [h1]
  have := endO_at e1 hpv
  rw [List.length_cons] at this
  rw [show 1 + A.flatten.length = A.flatten.length + 1 by omega]
  exact this
theorem ObjR.getNo {l : List JV} {x : JV} {ks : List (List JV)} {key : List UInt8} (o : ObjR l x ks) (hA : ∀ a ∈ ks, kk a ≠ key) : getO l 0 key = -1 := by
  have hpl : placesO l 0 = posK 1 ks := by
    have h0 : 0 < l.length := by rw [o.eq]; simp
    have hg : l.getD 0 zJ = x := by rw [o.eq]; rfl
    exact places_pos (a := [x]) (q := []) (k := 0) o.right h0 (by rw [o.eq]; simp) rfl (by rw [o.len, hg]) o.vals
  have hf : ∀ (ks : List (List JV)) (a : List JV), l = a ++ ks.flatten → (∀ y ∈ ks, kk y ≠ key ∧ y ≠ []) → (posK a.length ks).find? (fun k => keyAt l k == key) = none := by
    intro ks
    induction ks with
    | nil => intro a e _; rfl
    | cons y A ih =>
      intro a e h
      have e2 : l = a ++ (y ++ A.flatten) := by rw [e]; simp
      obtain ⟨h1, h2⟩ := h y (List.mem_cons_self ..)
      rw [posK, List.find?_cons, keyAt_head e2 h2, beq_eq_false_iff_ne.2 h1]
      have := ih (a ++ y) (by rw [e]; simp) fun z hz => h z (List.mem_cons_of_mem _ hz)
      rw [List.length_append] at this
      exact this
  unfold getO
  rw [hpl]
  have := hf ks [x] (by rw [o.eq]; simp) fun y hy => ⟨hA y hy, (o.vals y hy).ne (Nat.le_refl _)⟩
  rw [show ([x] : List JV).length = 1 from rfl] at this
  rw [this]
/-- The members split at the first of a key, or there is none. -/
theorem key_split (ks : List (List JV)) (key : List UInt8) : (∀ a ∈ ks, kk a ≠ key) ∨ ∃ A p B, ks = A ++ p :: B ∧ (∀ a ∈ A, kk a ≠ key) ∧ kk p = key := by
  induction ks with
  | nil => exact .inl fun _ h => by cases h
  | cons k ks ih =>
    by_cases h : kk k = key
    · exact .inr ⟨[], k, ks, rfl, (fun _ h => by cases h), h⟩
    · rcases ih with h1 | ⟨A, p, B, rfl, h2, h3⟩
      · refine .inl fun a ha => ?_
        rcases List.mem_cons.1 ha with rfl | ha
        · exact h
        · exact h1 a ha
      · refine .inr ⟨k :: A, p, B, rfl, fun a ha => ?_, h3⟩
        rcases List.mem_cons.1 ha with rfl | ha
        · exact h
        · exact h2 a ha
theorem cutO_at {l a p q : List JV} (hr : rightO l = true) (e : l = a ++ (p ++ q)) (hv : Vals 1 p) : cutO l a.length = namedO p [] := by
  have hpos := hv.le
  have hl : l.length = a.length + (p.length + q.length) := by rw [e]; simp
  unfold cutO
  rw [if_pos (isPl_iff.2 ⟨by omega, by omega, hr⟩), endO_at e hv, Int.toNat_natCast, Int.toNat_natCast]
  congr 1
  rw [e, ← List.append_assoc, List.take_left' (by simp), List.drop_left]
theorem cutO_no (l : List JV) : cutO l (-1) = [] := by
  unfold cutO
  rw [if_neg (fun h => by have := (isPl_iff.1 h).1; omega)]
/-- What stands at a key. -/
def atKey (ks : List (List JV)) (key : List UInt8) : List JV := match ks.find? (fun p => kk p == key) with | none => [] | some p => namedO p []
theorem atKey_no {ks : List (List JV)} {key : List UInt8} (h : ∀ a ∈ ks, kk a ≠ key) : atKey ks key = [] := by
  unfold atKey
  rw [List.find?_eq_none.2 fun a ha => by simpa using h a ha]
theorem atKey_at {A B : List (List JV)} {p : List JV} {key : List UInt8} (hA : ∀ a ∈ A, kk a ≠ key) (hp : kk p = key) : atKey (A ++ p :: B) key = namedO p [] := by
  unfold atKey
  rw [List.find?_append, List.find?_eq_none.2 fun a ha => by simpa using hA a ha, List.find?_cons, hp]
  simp
theorem atKey_skip {A B : List (List JV)} {p : List JV} {key : List UInt8} (hp : kk p ≠ key) : atKey (A ++ p :: B) key = atKey (A ++ B) key := by
  unfold atKey
  rw [List.find?_append, List.find?_append, List.find?_cons, beq_eq_false_iff_ne.2 hp]
theorem ObjR.cutKey {l : List JV} {x : JV} {ks : List (List JV)} (o : ObjR l x ks) (key : List UInt8) : cutO l (getO l 0 key) = atKey ks key := by
  rcases key_split ks key with h | ⟨A, p, B, rfl, h1, h2⟩
  · rw [o.getNo h, cutO_no, atKey_no h]
  · rw [(o.getAt h1 h2).1, atKey_at h1 h2]
    have e1 : l = (x :: A.flatten) ++ (p ++ B.flatten) := by rw [o.eq]; simp
    have := cutO_at o.right e1 (o.vals p (by simp))
    rw [List.length_cons] at this
    rw [show 1 + A.flatten.length = A.flatten.length + 1 by omega]
    exact this
theorem Vals.named {w : Nat} {p : List JV} (h : Vals w p) (key : List UInt8) : Vals w (namedO p key) := by
  cases p with
  | nil => exact h
  | cons x r => exact h
theorem kk_named {p : List JV} {key : List UInt8} (h : p ≠ []) : kk (namedO p key) = key := by
  cases p with
  | nil => exact absurd rfl h
  | cons x r => rfl
theorem named_self {p : List JV} {key : List UInt8} (h : kk p = key) : namedO p key = p := by
  cases p with
  | nil => rfl
  | cons x r => subst h; rfl
theorem named_named (p : List JV) (a b : List UInt8) : namedO (namedO p a) b = namedO p b := by
  cases p <;> rfl
theorem right_key {l : List JV} (h : rightO l = true) : kk l = [] := by
  obtain ⟨x, ks, rfl, hf, _⟩ := (seg_iff 49 false l).1 ((rightO_iff l).1 h).2
  rcases (fit_own hf).2.1 with h | h
  · cases h
  · exact h
/-! ### What is set, what is dropped -/
theorem ObjR.setAt {l : List JV} {x : JV} {A B : List (List JV)} {p v : List JV} {key : List UInt8} (o : ObjR l x (A ++ p :: B)) (hA : ∀ a ∈ A, kk a ≠ key) (hp : kk p = key) (hv : rightO v = true) : setO l key v = wholeO (x :: (A ++ namedO v key :: B).flatten) := by
  obtain ⟨h1, h2⟩ := o.getAt hA hp
  unfold setO
  rw [if_neg (by rw [o.obj0, hv]; simp), h2, h1, if_pos (by omega), Int.toNat_natCast, Int.toNat_natCast]
  have e1 : l = (x :: A.flatten) ++ (p ++ B.flatten) := by rw [o.eq]; simp
  have e3 : l.take (1 + A.flatten.length) = x :: A.flatten := by rw [e1, List.take_left' (by simp; omega)]
  have e4 : l.drop (1 + A.flatten.length + p.length) = B.flatten := by rw [e1, ← List.append_assoc, List.drop_left' (by simp; omega)]
  rw [e3, e4]
  simp
theorem ObjR.setNo {l : List JV} {x : JV} {ks : List (List JV)} {v : List JV} {key : List UInt8} (o : ObjR l x ks) (hA : ∀ a ∈ ks, kk a ≠ key) (hv : rightO v = true) : setO l key v = wholeO ((x.1, x.2.1, x.2.2.1, x.2.2.2 + 1) :: (ks ++ [namedO v key]).flatten) := by
  have h1 := o.getNo hA
  unfold setO
  rw [if_neg (by rw [o.obj0, hv]; simp), h1, if_neg (by decide), o.eq]
  congr 1
  simp [plusC]
theorem ObjR.dropAt {l : List JV} {x : JV} {A B : List (List JV)} {p : List JV} {key : List UInt8} (o : ObjR l x (A ++ p :: B)) (hA : ∀ a ∈ A, kk a ≠ key) (hp : kk p = key) : dropO l key = (x.1, x.2.1, x.2.2.1, x.2.2.2 + -1) :: (A ++ B).flatten := by
  obtain ⟨h1, h2⟩ := o.getAt hA hp
  unfold dropO
  rw [if_neg (by rw [o.obj0]; simp), h2, h1, if_neg (by omega), Int.toNat_natCast, Int.toNat_natCast]
  have e1 : l = (x :: A.flatten) ++ (p ++ B.flatten) := by rw [o.eq]; simp
  have e3 : l.take (1 + A.flatten.length) = x :: A.flatten := by rw [e1, List.take_left' (by simp; omega)]
  have e4 : l.drop (1 + A.flatten.length + p.length) = B.flatten := by rw [e1, ← List.append_assoc, List.drop_left' (by simp; omega)]
  rw [e3, e4]
  simp [plusC]
theorem ObjR.dropNo {l : List JV} {x : JV} {ks : List (List JV)} {key : List UInt8} (o : ObjR l x ks) (hA : ∀ a ∈ ks, kk a ≠ key) : dropO l key = l := by
  unfold dropO
  rw [if_neg (by rw [o.obj0]; simp), o.getNo hA, if_pos (by decide)]
theorem whole_ne {l : List JV} (h : wholeO l ≠ []) : rightO l = true ∧ wholeO l = l := by
  unfold wholeO at h ⊢
  split at h
  · rename_i hr; exact ⟨hr, by rw [if_pos hr]⟩
  · exact absurd rfl h
end Go.Proofs.YtjopikfkgjbcgaaGreatDoor
