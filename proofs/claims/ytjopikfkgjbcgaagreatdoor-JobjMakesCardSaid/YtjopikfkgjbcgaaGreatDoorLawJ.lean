/- A slice of values that came in. -/
import Derived.Test.YtjopikfkgjbcgaaGreatDoorLaw
import Derived.Test.YtjopikfkgjbcgaaGreatDoorTab
import Derived.Deep.SlicePairs
namespace Go.Proofs.YtjopikfkgjbcgaaGreatDoor
set_option linter.unnecessarySimpa false
set_option linter.unusedSimpArgs false
set_option linter.unusedVariables false
open Go.ChangeShapes Go.WideShapes Go.ChangeAt Go.RowKit
section
variable {H : Type} {enc : TypeId × Value → H} {P : Program} {w : World} {base : Nat} {held : Bool}
theorem value_in {e : TypeId} {f0 f1 f2 f3 : Field} {n : Nat} {cs : List Value} {y : DataW H × List MemPlace} (he : P.underlying e = some (.struct #[f0, f1, f2, f3])) (o0 : f0.offset = 0) (o1 : f1.offset = 1) (o2 : f2.offset = 2) (o3 : f3.offset = 3)
    (c0 : P.cellsOf f0.type = 1) (c1 : P.cellsOf f1.type = 1) (c2 : P.cellsOf f2.type = 1) (c3 : P.cellsOf f3.type = 1) (u0 : P.underlying f0.type = some (.int .i64)) (u1 : P.underlying f1.type = some .string) (u2 : P.underlying f2.type = some .string) (u3 : P.underlying f3.type = some (.int .i64))
    (hl : cs.length = 4) (t : DataW.trod enc P w base (fun _ => true) held n e cs = some y) :
    ∃ x : JV, cs = encJ x ∧ (x.2.1.length ∈ y.1.weights P e ∧ x.2.2.1.length ∈ y.1.weights P e) ∧ (Lit.int .i64 x.1).wf = true ∧ (Lit.int .i64 x.2.2.2).wf = true := by
  obtain ⟨xs, k, hk, hxy, _, hxl, hf⟩ := DataW.trod_struct he t
  match xs, hxl, cs, hl with
  | [y0, y1, y2, y3], _, [v0, v1, v2, v3], _ =>
    have g0 := hf 0 f0 rfl
    have g1 := hf 1 f1 rfl
    have g2 := hf 2 f2 rfl
    have g3 := hf 3 f3 rfl
    simp [o0, c0] at g0
    simp [o1, c1] at g1
    simp [o2, c2] at g2
    simp [o3, c3] at g3
    obtain ⟨n0, a0, b0, w0⟩ := DataW.trod_int u0 g0
    obtain ⟨s1, a1, b1, _⟩ := DataW.trod_string u1 g1
    obtain ⟨s2, a2, b2, _⟩ := DataW.trod_string u2 g2
    obtain ⟨n3, a3, b3, w3⟩ := DataW.trod_int u3 g3
    have a0 : v0 = I64 n0 := by simpa using a0
    have a1 : v1 = .string s1 := by simpa using a1
    have a2 : v2 = .string s2 := by simpa using a2
    have a3 : v3 = I64 n3 := by simpa using a3
    refine ⟨(n0, s1.data.toList, s2.data.toList, n3), ?_, ?_, w0, w3⟩
    · rw [a0, a1, a2, a3]
      simp only [encJ, strOf_of]
    · rw [hxy]
      simp [DataW.weights, DataW.weightsEach, he, b0, b1, b2, b3]
theorem values_inS {B : Nat} {t e : TypeId} {f0 f1 f2 f3 : Field} {a : Option Addr} {len cap : Nat} {d : DataW H} {p : List MemPlace} (ht : P.underlying t = some (.slice e)) (he : P.underlying e = some (.struct #[f0, f1, f2, f3])) (ce : P.cellsOf e = 4) (o0 : f0.offset = 0) (o1 : f1.offset = 1) (o2 : f2.offset = 2) (o3 : f3.offset = 3)
    (c0 : P.cellsOf f0.type = 1) (c1 : P.cellsOf f1.type = 1) (c2 : P.cellsOf f2.type = 1) (c3 : P.cellsOf f3.type = 1) (u0 : P.underlying f0.type = some (.int .i64)) (u1 : P.underlying f1.type = some .string) (u2 : P.underlying f2.type = some .string) (u3 : P.underlying f3.type = some (.int .i64))
    (h : DataW.Trod enc P w base (fun _ => true) held t (.slice a len cap) d p) (hB : ∀ n ∈ d.weights P t, n ≤ B) : ∃ l : List JV, l.length = len ∧ Jvs w.heap a l ∧ l.length ≤ cap ∧ cap ≤ maxLen ∧ ∀ x ∈ l, (x.2.1.length ≤ B ∧ x.2.2.1.length ≤ B) ∧ (Lit.int .i64 x.1).wf = true ∧ (Lit.int .i64 x.2.2.2).wf = true := by
  obtain ⟨fuel, hf⟩ := h
  rcases Go.Deep.open_slice ht hf with ⟨hcs, _⟩ | ⟨x, l, c, m, n, D, Pl, hcs, _, hl, hm, hmm, hd, hr⟩
  · simp [Value.cells] at hcs
    obtain ⟨rfl, rfl, rfl⟩ := hcs
    exact ⟨[], rfl, .inl rfl, Nat.le_refl _, Nat.zero_le _, fun _ h => by cases h⟩
  · simp [Value.cells] at hcs
    obtain ⟨rfl, rfl, rfl⟩ := hcs
    have hmc : m = cap := by simpa using hmm
    subst hmc
    by_cases hz : len = 0
    · subst hz
      exact ⟨[], rfl, .inl rfl, Nat.zero_le _, hm, fun _ h => by cases h⟩
    · have each : ∀ r, r < m → ∃ y : JV, (∀ i v, (encJ y)[i]? = some v → w.cell? ((x.add (r * 4)).add i) = some v) ∧ (y.2.1.length ∈ (D r).weights P e ∧ y.2.2.1.length ∈ (D r).weights P e) ∧ (Lit.int .i64 y.1).wf = true ∧ (Lit.int .i64 y.2.2.2).wf = true := fun r hrm => by
        obtain ⟨cs', q1, q2⟩ := hr r hrm
        rw [ce] at q1
        obtain ⟨_, q4, q5⟩ := World.cells?_some q1
        obtain ⟨y, e1, e2, e3⟩ := value_in he o0 o1 o2 o3 c0 c1 c2 c3 u0 u1 u2 u3 q4 q2
        refine ⟨y, fun i v hv => ?_, e2, e3⟩
        rw [← e1] at hv
        have hi := (List.getElem?_eq_some_iff.1 hv).1
        rw [q5 i (by omega)]
        exact hv
      obtain ⟨b, o, spot⟩ := x
      have hs1 := (each 0 (by omega)).choose_spec.1 0 _ rfl
      have hspot : spot = none := by simpa [Addr.add] using World.cell?_spot hs1
      subst hspot
      have small : ∀ r (hrl : r < len), ∀ n ∈ (D r).weights P e, n ≤ B := fun r hrl n hn => by
        have hd1 : d = _ := congrArg Prod.fst hd
        refine hB n ?_
        rw [hd1]
        simp only [DataW.weights, ht]
        exact List.mem_cons_of_mem _ (List.mem_append.2 (.inl (weightsAll_mem (List.mem_map.2 ⟨r, List.mem_range.2 hrl, rfl⟩) _ hn)))
      refine ⟨(List.range len).map fun r => if hrc : r < m then (each r hrc).choose else zJ, by simp, .inr ⟨b, o, rfl, fun r hr1 i v hv => ?_⟩, by simpa using hl, hm, fun y hy => ?_⟩
      · rw [List.length_map, List.length_range] at hr1
        have hrc : r < m := by omega
        rw [List.getD_eq_getElem?_getD, List.getElem?_map, List.getElem?_range hr1] at hv
        simp only [Option.map_some, Option.getD_some, hrc, dif_pos] at hv
        have := (each r hrc).choose_spec.1 i v hv
        rw [addr_add, addr_add, cell_cellH] at this
        exact this
      · obtain ⟨r, hr1, rfl⟩ := List.mem_map.1 hy
        have hrl := List.mem_range.1 hr1
        have hrc : r < m := by omega
        simp only [hrc, dif_pos]
        obtain ⟨_, ⟨q2, q3⟩, q4⟩ := (each r hrc).choose_spec
        exact ⟨⟨small r hrl _ q2, small r hrl _ q3⟩, q4⟩
end
end Go.Proofs.YtjopikfkgjbcgaaGreatDoor
