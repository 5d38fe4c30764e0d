/- A slice of slices of values that came in; a slice of strings. -/
import Derived.Test.YtjopikfkgjbcgaaGreatDoorLawJ
import Derived.Test.YtjopikfkgjbcgaaGreatDoorOm
namespace Go.Proofs.YtjopikfkgjbcgaaGreatDoor
set_option linter.unnecessarySimpa false
set_option linter.unusedSimpArgs false
set_option linter.unusedVariables false
open Go.ChangeShapes Go.WideShapes Go.ChangeAt Go.RowKit
section
variable {H : Type} {enc : TypeId × Value → H} {P : Program} {w : World} {base : Nat} {held : Bool}
theorem rows_inS {B : Nat} {t s e : TypeId} {f0 f1 f2 f3 : Field} {a : Option Addr} {len cap : Nat} {d : DataW H} {p : List MemPlace} (ht : P.underlying t = some (.slice s)) (hs : P.underlying s = some (.slice e)) (he : P.underlying e = some (.struct #[f0, f1, f2, f3])) (c1s : P.cellsOf s = 1) (ce : P.cellsOf e = 4) (o0 : f0.offset = 0) (o1 : f1.offset = 1) (o2 : f2.offset = 2) (o3 : f3.offset = 3)
    (c0 : P.cellsOf f0.type = 1) (c1 : P.cellsOf f1.type = 1) (c2 : P.cellsOf f2.type = 1) (c3 : P.cellsOf f3.type = 1) (u0 : P.underlying f0.type = some (.int .i64)) (u1 : P.underlying f1.type = some .string) (u2 : P.underlying f2.type = some .string) (u3 : P.underlying f3.type = some (.int .i64))
    (h : DataW.Trod enc P w base (fun _ => true) held t (.slice a len cap) d p) (hB : ∀ n ∈ d.weights P t, n ≤ B) : ∃ l : List RowJ, l.length = len ∧ Jvss w.heap a l ∧ l.length ≤ cap ∧ cap ≤ maxLen ∧ ∀ x ∈ l, x.2.1 ≤ maxLen ∧ ∀ y ∈ x.2.2, (y.2.1.length ≤ B ∧ y.2.2.1.length ≤ B) ∧ (Lit.int .i64 y.1).wf = true ∧ (Lit.int .i64 y.2.2.2).wf = true := by
  obtain ⟨fuel, hf⟩ := h
  rcases Go.Deep.open_slice1 ht c1s hf with ⟨hcs, _⟩ | ⟨x, l, c, m, n, V, D, Pl, hcs, _, hl, hm, hmm, hd, hr⟩
  · simp [Value.cells] at hcs
    obtain ⟨rfl, rfl, rfl⟩ := hcs
    exact ⟨[], rfl, .inl rfl, Nat.le_refl _, Nat.zero_le _, fun _ h => by cases h⟩
  · simp [Value.cells] at hcs
    obtain ⟨rfl, rfl, rfl⟩ := hcs
    have hmc : m = cap := by simpa using hmm
    subst hmc
    by_cases hz : len = 0
    · subst hz
      exact ⟨[], rfl, .inl rfl, Nat.zero_le _, hm, fun _ h => by cases h⟩
    · obtain ⟨b, o, spot⟩ := x
      have hspot : spot = none := by simpa [Addr.add] using World.cell?_spot (hr 0 (by omega)).1
      subst hspot
      have each : ∀ r, r < len → ∃ y : RowJ, cellH w.heap b (o + r) = some (.slice y.1 y.2.2.length y.2.1) ∧ Jvs w.heap y.1 y.2.2 ∧ y.2.2.length ≤ y.2.1 ∧ y.2.1 ≤ maxLen ∧ ∀ z ∈ y.2.2, (z.2.1.length ≤ B ∧ z.2.2.1.length ≤ B) ∧ (Lit.int .i64 z.1).wf = true ∧ (Lit.int .i64 z.2.2.2).wf = true := fun r hrl => by
        obtain ⟨q1, q2⟩ := hr r (by omega)
        rw [addr_add, cell_cellH] at q1
        have hw : ∀ n ∈ (D r).weights P s, n ≤ B := fun n hn => by
          have hd1 : d = _ := congrArg Prod.fst hd
          refine hB n ?_
          rw [hd1]
          simp only [DataW.weights, ht]
          exact List.mem_cons_of_mem _ (List.mem_append.2 (.inl (weightsAll_mem (List.mem_map.2 ⟨r, List.mem_range.2 hrl, rfl⟩) _ hn)))
        obtain ⟨a', n', c', hV⟩ : ∃ a' n' c', V r = .slice a' n' c' := by
          rcases Go.Deep.open_slice hs q2 with ⟨q, _⟩ | ⟨a', n', c', _, _, _, _, q, _⟩
          · exact ⟨none, 0, 0, by simpa using q⟩
          · exact ⟨some a', n', c', by simpa using q⟩
        rw [hV] at q1 q2
        obtain ⟨l', e1, e2, e3, e4, e5⟩ := values_inS hs he ce o0 o1 o2 o3 c0 c1 c2 c3 u0 u1 u2 u3 ⟨_, q2⟩ hw
        exact ⟨(a', c', l'), by rw [e1]; exact q1, e2, e3, e4, e5⟩
      refine ⟨(List.range len).map fun r => if hrc : r < len then (each r hrc).choose else (none, 0, []), by simp, .inr ⟨b, o, rfl, fun r y hy => ?_⟩, by simpa using hl, hm, fun y hy => ?_⟩
      · rw [List.getElem?_map] at hy
        by_cases hr1 : r < len
        · rw [List.getElem?_range hr1] at hy
          simp only [Option.map_some, hr1, dif_pos, Option.some.injEq] at hy
          subst hy
          obtain ⟨k1, k2, k3, _⟩ := (each r hr1).choose_spec
          exact ⟨k1, k2, k3⟩
        · rw [List.getElem?_eq_none (by simpa using Nat.le_of_not_lt hr1)] at hy
          cases hy
      · obtain ⟨r, hr1, rfl⟩ := List.mem_map.1 hy
        have hrl := List.mem_range.1 hr1
        simp only [hrl, dif_pos]
        obtain ⟨_, _, _, k4, k5⟩ := (each r hrl).choose_spec
        exact ⟨k4, k5⟩
theorem strs_inS {B : Nat} {t e : TypeId} {a : Option Addr} {len cap : Nat} {d : DataW H} {p : List MemPlace} (ht : P.underlying t = some (.slice e)) (he : P.underlying e = some .string) (ce : P.cellsOf e = 1)
    (h : DataW.Trod enc P w base (fun _ => true) held t (.slice a len cap) d p) (hB : ∀ n ∈ d.weights P t, n ≤ B) : ∃ l : List (List UInt8), l.length = len ∧ Row gS [] w.heap a l ∧ l.length ≤ cap ∧ cap ≤ maxLen ∧ ∀ x ∈ l, x.length ≤ B := by
  obtain ⟨fuel, hf⟩ := h
  rcases Go.Deep.open_slice1 ht ce hf with ⟨hcs, _⟩ | ⟨x, l, c, m, n, V, D, Pl, hcs, _, hl, hm, hmm, hd, hr⟩
  · simp [Value.cells] at hcs
    obtain ⟨rfl, rfl, rfl⟩ := hcs
    exact ⟨[], rfl, .inl rfl, Nat.le_refl _, Nat.zero_le _, fun _ h => by cases h⟩
  · simp [Value.cells] at hcs
    obtain ⟨rfl, rfl, rfl⟩ := hcs
    have hmc : m = cap := by simpa using hmm
    subst hmc
    by_cases hz : len = 0
    · subst hz
      exact ⟨[], rfl, .inl rfl, Nat.zero_le _, hm, fun _ h => by cases h⟩
    · obtain ⟨b, o, spot⟩ := x
      have hspot : spot = none := by simpa [Addr.add] using World.cell?_spot (hr 0 (by omega)).1
      subst hspot
      have each : ∀ r, r < len → ∃ y : List UInt8, cellH w.heap b (o + r) = some (gS y) ∧ y.length ≤ B := fun r hrl => by
        obtain ⟨q1, q2⟩ := hr r (by omega)
        rw [addr_add, cell_cellH] at q1
        have hw : ∀ n ∈ (D r).weights P e, n ≤ B := fun n hn => by
          have hd1 : d = _ := congrArg Prod.fst hd
          refine hB n ?_
          rw [hd1]
          simp only [DataW.weights, ht]
          exact List.mem_cons_of_mem _ (List.mem_append.2 (.inl (weightsAll_mem (List.mem_map.2 ⟨r, List.mem_range.2 hrl, rfl⟩) _ hn)))
        obtain ⟨s1, a1, b1, _⟩ := DataW.trod_string he q2
        have a1 : V r = .string s1 := by simpa using a1
        refine ⟨s1.data.toList, by rw [q1, a1]; exact congrArg (fun s => some (Value.string s)) (strOf_of s1).symm, hw _ ?_⟩
        have b1 : (D r, Pl r).1 = _ := congrArg Prod.fst b1
        simp only at b1
        rw [b1]
        simp [DataW.weights, he]
      refine ⟨(List.range len).map fun r => if hrc : r < len then (each r hrc).choose else [], by simp, .inr ⟨b, o, rfl, fun r hr1 => ?_⟩, by simpa using hl, hm, fun y hy => ?_⟩
      · rw [List.length_map, List.length_range] at hr1
        have k1 := (each r hr1).choose_spec.1
        rw [k1]
        simp [hr1]
      · obtain ⟨r, hr1, rfl⟩ := List.mem_map.1 hy
        have hrl := List.mem_range.1 hr1
        simp only [hrl, dif_pos]
        exact (each r hrl).choose_spec.2
end
end Go.Proofs.YtjopikfkgjbcgaaGreatDoor
