/- When a row is right: the document's recursion, and the program's stack; they are the same. No program in sight. -/
import Derived.Test.YtjopikfkgjbcgaaDoorWb
import Derived.Test.YtjopikfkgjbcgaaDoorNe
namespace Go.Proofs.YtjopikfkgjbcgaaDoor
set_option linter.unnecessarySimpa false
set_option linter.unusedSimpArgs false
set_option linter.unusedVariables false
open Go.RowKit
/-- Is a value right by itself, but for what it has and for its key? -/
def ownO (x : JV) : Bool :=
  if x.1 < 0 ∨ x.1 > 6 ∨ x.2.2.2 < 0 ∨ (x.2.2.2 > 0 ∧ ¬ (x.1 = 5 ∨ x.1 = 6)) then false
  else if x.1 = 3 then decide (x.2.2.1 ≠ []) && decide (numO x.2.2.1 = x.2.2.1.length)
  else validO x.2.2.1 && (decide (x.2.2.1 = []) || decide (x.1 = 4))
def isObj (x : JV) : Bool := decide (x.1 = 6)
/-- Is a value right by itself, in an object or not? -/
def fitV (mem : Bool) (x : JV) : Bool := ownO x && (mem || decide (x.2.1 = [])) && validO x.2.1
/-- What stands behind so many values, of names that are none of those. -/
def kidsV (g : List JV → Option (List JV)) (obj : Bool) : Nat → List (List UInt8) → List JV → Option (List JV)
  | 0, _, l => some l
  | _ + 1, _, [] => none
  | n + 1, ns, x :: r => if (obj && ns.contains x.2.1) = true then none else (g (x :: r)).bind (kidsV g obj n (x.2.1 :: ns))
/-- What stands behind a right row. -/
def rightV : Nat → Bool → List JV → Option (List JV)
  | 0, _, _ => none
  | _ + 1, _, [] => none
  | d + 1, mem, x :: r => if fitV mem x = true then kidsV (rightV d (isObj x)) (isObj x) x.2.2.2.toNat [] r else none
/-- Is a row right? -/
def rightO (l : List JV) : Bool := decide (l.length ≤ 5000) && (rightV 50 false l == some [])
/-! ### The stack -/
abbrev Fr := Bool × Nat × List (List UInt8)
def popS : List Fr → List Fr
  | [] => []
  | (o, 0, ns) :: s => popS s
  | (o, n + 1, ns) :: s => (o, n + 1, ns) :: s
def stepS (s : List Fr) (x : JV) : Option (List Fr) :=
  match popS s with
  | [] => none
  | (o, n, ns) :: s' =>
    if (fitV o x && decide (s'.length + 1 ≤ 50) && !(o && ns.contains x.2.1)) = true then
      some (if x.2.2.2 > 0 then (isObj x, x.2.2.2.toNat, []) :: (o, n - 1, if o = true then x.2.1 :: ns else ns) :: s' else (o, n - 1, if o = true then x.2.1 :: ns else ns) :: s')
    else none
def goS : List Fr → List JV → Bool
  | s, [] => s.all fun f => f.2.1 == 0
  | s, x :: r => match stepS s x with | none => false | some s' => goS s' r
theorem popS_pop (s : List Fr) : popS (popS s) = popS s := by
  induction s with
  | nil => rfl
  | cons f s ih =>
    obtain ⟨o, n, ns⟩ := f
    cases n with
    | zero => simpa [popS] using ih
    | succ n => rfl
theorem popS_all (s : List Fr) : ((popS s).all fun f => f.2.1 == 0) = s.all fun f => f.2.1 == 0 := by
  induction s with
  | nil => rfl
  | cons f s ih =>
    obtain ⟨o, n, ns⟩ := f
    cases n with
    | zero => simpa [popS] using ih
    | succ n => rfl
theorem goS_pop (s : List Fr) (l : List JV) : goS (popS s) l = goS s l := by
  cases l with
  | nil => exact popS_all s
  | cons x r => unfold goS stepS; rw [popS_pop]
theorem goS_zero (o : Bool) (ns : List (List UInt8)) (s : List Fr) (l : List JV) : goS ((o, 0, ns) :: s) l = goS s l := by
  rw [← goS_pop ((o, 0, ns) :: s), ← goS_pop s]
  rfl
/-- One value, and those that it has. -/
def OneS (d : Nat) (mem : Bool) : Prop := ∀ (l : List JV) (n : Nat) (ns : List (List UInt8)) (s : List Fr), s.length + 1 + d = 51 →
  goS ((mem, n + 1, ns) :: s) l = if (mem && ns.contains (l.headD zJ).2.1) = true then false else match rightV d mem l with | none => false | some r => goS ((mem, n, if mem = true then (l.headD zJ).2.1 :: ns else ns) :: s) r
theorem kids_go (d : Nat) (o : Bool) (ho : OneS d o) : ∀ (n : Nat) (ns ms : List (List UInt8)) (l : List JV) (s : List Fr), (o = true → ns = ms) → s.length + 1 + d = 51 →
    goS ((o, n, ns) :: s) l = match kidsV (rightV d o) o n ms l with | none => false | some r => goS s r
  | 0, ns, ms, l, s, _, _ => goS_zero o ns s l
  | n + 1, ns, ms, [], s, _, _ => by simp [kidsV, goS]
  | n + 1, ns, ms, x :: r, s, hn, hs => by
    rw [ho _ _ _ _ hs]
    have e : (o && ns.contains x.2.1) = (o && ms.contains x.2.1) := by
      cases o with
      | false => rfl
      | true => rw [hn rfl]
    show (if (o && ns.contains x.2.1) = true then _ else _) = _
    rw [kidsV, e]
    by_cases hc : (o && ms.contains x.2.1) = true
    · rw [if_pos hc, if_pos hc]
    · rw [if_neg hc, if_neg hc]
      cases rightV d o (x :: r) with
      | none => rfl
      | some q =>
        show goS ((o, n, if o = true then x.2.1 :: ns else ns) :: s) q = _
        rw [kids_go d o ho n _ (x.2.1 :: ms) q s (fun h => by rw [if_pos h, hn h]) hs]
        rfl
theorem one_go : ∀ (d : Nat) (mem : Bool), OneS d mem
  | 0, mem => by
    intro l n ns s hs
    cases l with
    | nil => simp [goS, rightV]
    | cons x r =>
      have : stepS ((mem, n + 1, ns) :: s) x = none := by
        unfold stepS popS
        simp only
        rw [decide_eq_false (by omega)]
        simp
      unfold goS
      rw [this]
      simp [rightV]
  | d + 1, mem => by
    intro l n ns s hs
    cases l with
    | nil => simp [goS, rightV]
    | cons x r =>
      have hd : decide (s.length + 1 ≤ 50) = true := decide_eq_true (by omega)
      show (match stepS ((mem, n + 1, ns) :: s) x with | none => false | some s' => goS s' r) = if (mem && ns.contains x.2.1) = true then false else _
      unfold stepS popS
      simp only [hd, Bool.and_true, Nat.add_sub_cancel, List.headD_cons]
      rw [rightV]
      by_cases hf : fitV mem x = true
      · by_cases hc : (mem && ns.contains x.2.1) = true
        · rw [hf, hc]; simp
        · have hc' : (mem && ns.contains x.2.1) = false := by simpa using hc
          rw [hf, hc', if_pos (by rfl), if_pos rfl]
          by_cases h0 : x.2.2.2 > 0
          · rw [if_pos h0]
            exact kids_go d (isObj x) (one_go d _) _ _ _ _ _ (fun _ => rfl) (by show s.length + 1 + 1 + d = 51; omega)
          · have hz : x.2.2.2.toNat = 0 := by omega
            rw [if_neg h0, hz]
            rfl
      · have hf' : fitV mem x = false := by simpa using hf
        rw [hf']
        simp
/-- The program's answer is the document's. -/
theorem goS_right (l : List JV) : goS [(false, 1, [])] l = (rightV 50 false l == some []) := by
  rw [one_go 50 false l 0 [] [] rfl]
  simp only [Bool.false_and, Bool.false_eq_true, if_false]
  cases rightV 50 false l with
  | none => rfl
  | some r =>
    show goS [(false, 0, [])] r = _
    rw [goS_zero]
    cases r with
    | nil => rfl
    | cons x r => rfl
end Go.Proofs.YtjopikfkgjbcgaaDoor
