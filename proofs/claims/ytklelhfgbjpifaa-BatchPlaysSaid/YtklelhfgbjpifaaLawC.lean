/- A slice of calls that came in. -/
import Derived.Test.YtklelhfgbjpifaaLaw
import Derived.Test.YtklelhfgbjpifaaCg
import Derived.Deep.SlicePairs
namespace Go.Proofs.Ytklelhfgbjpifaa
set_option linter.unnecessarySimpa false
set_option linter.unusedSimpArgs false
set_option linter.unusedVariables false
open Go.ChangeShapes Go.WideShapes Go.ChangeAt Go.RowKit
section
variable {H : Type} {enc : TypeId × Value → H} {P : Program} {w : World} {base : Nat} {held : Bool}
theorem call_in {f0 f1 q : TypeId} {n : Nat} {v0 v1 : Value} {y0 y1 : DataW H × List MemPlace} (h0 : P.underlying f0 = some (.int .i64)) (h1 : P.underlying f1 = some (.slice q)) (hq : P.underlying q = some (.int .u8)) (cq : P.cellsOf q = 1) (bq : P.bytesOf q = 1)
    (t0 : DataW.trod enc P w base (fun _ => true) held n f0 [v0] = some y0) (t1 : DataW.trod enc P w base (fun _ => true) held n f1 [v1] = some y1) :
    ∃ y : Cl, v0 = I64 y.1 ∧ v1 = .slice y.2.1 y.2.2.2.length y.2.2.1 ∧ Byt w.heap y.2.1 y.2.2.2 ∧ y.2.2.2.length ≤ y.2.2.1 ∧ (y.2.2.2.length = 0 ∨ y.2.2.1 ∈ y1.1.weights P f1) := by
  obtain ⟨nn, e1, _, _⟩ := DataW.trod_int h0 t0
  have e1 : v0 = I64 nn := by simpa using e1
  rcases open_ints h1 hq cq t1 with ⟨hcs, _⟩ | ⟨x, l, c, zs, hcs, _, hl, hm, hz, hx, hcell, hwz⟩
  · have : v1 = .slice none 0 0 := by simpa using hcs
    exact ⟨(nn, none, 0, []), e1, this, .inl rfl, Nat.le_refl _, .inl rfl⟩
  · have hv : v1 = .slice (some x) l c := by simpa using hcs
    have hz : zs.length = c := by simpa using hz
    have : IsRow .u8 w (some x) l c zs := .inr ⟨x, rfl, hl, hm, hz, hcell, hwz⟩
    obtain ⟨xs, e2, b2, g2, _⟩ := bytes_in this
    refine ⟨(nn, some x, c, xs), e1, by rw [hv, ← e2], b2, g2, .inr ?_⟩
    rw [congrArg Prod.fst hx]
    simp [DataW.weights, h1, bq, lits]
    left
    omega
theorem calls_inS {B : Nat} {t e q : TypeId} {f0 f1 : Field} {a : Option Addr} {len cap : Nat} {d : DataW H} {p : List MemPlace} (ht : P.underlying t = some (.slice e)) (he : P.underlying e = some (.struct #[f0, f1])) (h0 : P.underlying f0.type = some (.int .i64)) (h1 : P.underlying f1.type = some (.slice q)) (hq : P.underlying q = some (.int .u8))
    (ce : P.cellsOf e = 2) (o0 : f0.offset = 0) (o1 : f1.offset = 1) (c0 : P.cellsOf f0.type = 1) (c1 : P.cellsOf f1.type = 1) (cq : P.cellsOf q = 1) (bq : P.bytesOf q = 1)
    (h : DataW.Trod enc P w base (fun _ => true) held t (.slice a len cap) d p) (hB : ∀ n ∈ d.weights P t, n ≤ B) : ∃ l : List Cl, l.length = len ∧ Cls w.heap a l ∧ l.length ≤ cap ∧ cap ≤ maxLen ∧ ∀ x ∈ rowsOf l, x.2.2.length ≤ B := by
  obtain ⟨fuel, hf⟩ := h
  rcases Go.Deep.open_slice_pairs ht he ce o0 o1 c0 c1 hf with ⟨hcs, _⟩ | ⟨x, l, c, m, n, V0, V1, D0, D1, P0, P1, hcs, _, hl, hm, hmm, hd, hr⟩
  · simp [Value.cells] at hcs
    obtain ⟨rfl, rfl, rfl⟩ := hcs
    exact ⟨[], rfl, .inl rfl, Nat.le_refl _, Nat.zero_le _, fun _ h => by cases h⟩
  · simp [Value.cells] at hcs
    obtain ⟨rfl, rfl, rfl⟩ := hcs
    have hmc : m = cap := by simpa using hmm
    subst hmc
    by_cases hz : len = 0
    · subst hz
      exact ⟨[], rfl, .inl rfl, Nat.zero_le _, hm, fun _ h => by cases h⟩
    · obtain ⟨b, o, spot⟩ := x
      have hs1 := (hr 0 (by omega)).1
      have hspot : spot = none := by simpa [Addr.add] using World.cell?_spot hs1
      subst hspot
      have each : ∀ r, r < m → ∃ y : Cl, V0 r = I64 y.1 ∧ V1 r = .slice y.2.1 y.2.2.2.length y.2.2.1 ∧ Byt w.heap y.2.1 y.2.2.2 ∧ y.2.2.2.length ≤ y.2.2.1 ∧ (y.2.2.2.length = 0 ∨ y.2.2.1 ∈ (D1 r).weights P f1.type) := fun r hrm => by
        obtain ⟨_, _, q3, q4⟩ := hr r hrm
        exact call_in h0 h1 hq cq bq q3 q4
      have small : ∀ r (hrl : r < len), (each r (by omega)).choose.2.2.2.length ≤ B := fun r hrl => by
        obtain ⟨_, _, _, q4, q5⟩ := (each r (by omega)).choose_spec
        rcases q5 with q5 | q5
        · omega
        · have hd1 : d = _ := congrArg Prod.fst hd
          have hmem : (each r (by omega)).choose.2.2.1 ∈ d.weights P t := by
            rw [hd1]
            simp only [DataW.weights, ht]
            refine List.mem_cons_of_mem _ (List.mem_append.2 (.inl (weightsAll_mem (List.mem_map.2 ⟨r, List.mem_range.2 hrl, rfl⟩) _ ?_)))
            simp only [DataW.weights, he]
            simp only [List.map_cons, List.map_nil, DataW.weightsEach, List.mem_append]
            exact .inr (.inl q5)
          have := hB _ hmem
          omega
      refine ⟨(List.range len).map fun r => if hrc : r < m then (each r hrc).choose else (0, none, 0, []), by simp, .inr ⟨b, o, rfl, fun r x hx => ?_⟩, by simpa using hl, hm, fun x hx => ?_⟩
      · simp only [List.getElem?_map, List.getElem?_range] at hx
        by_cases hrl : r < len
        · have hrc : r < m := by omega
          rw [List.getElem?_range hrl] at hx
          simp only [Option.map_some, hrc, dif_pos, Option.some.injEq] at hx
          subst hx
          obtain ⟨q1, q2, _, _⟩ := hr r hrc
          obtain ⟨y1, y2, y3, y4, _⟩ := (each r hrc).choose_spec
          rw [addr_add, cell_cellH] at q1
          rw [addr_add, cell_cellH, ← Nat.add_assoc] at q2
          rw [y1] at q1
          rw [y2] at q2
          exact ⟨q1, q2, y3, y4⟩
        · exfalso
          rw [List.getElem?_eq_none (by simpa using Nat.le_of_not_lt hrl)] at hx
          cases hx
      · unfold rowsOf at hx
        rw [List.map_map] at hx
        obtain ⟨r, hr1, rfl⟩ := List.mem_map.1 hx
        have hrl := List.mem_range.1 hr1
        have hrc : r < m := by omega
        simp only [Function.comp, hrc, dif_pos]
        exact small r hrl
end
end Go.Proofs.Ytklelhfgbjpifaa
