/- A header that came in; the laid table of places. -/
import Derived.Test.YtfogkggkjmkdiaaDoorHg
import Derived.Test.YtfogkggkjmkdiaaDoorLaw
import Derived.Lib.LaidU8
namespace Go.Proofs.YtfogkggkjmkdiaaDoor
set_option linter.unnecessarySimpa false
set_option linter.unusedSimpArgs false
set_option linter.unusedVariables false
open Go.RowKit Go.ChangeShapes Go.WideShapes
section
variable {H : Type} {enc : TypeId × Value → H} {w : World} {base : Nat} {sp : Nat → Bool} {held : Bool}
theorem cel36 : Tryd.prog.cellsOf 36 = 10 := by kernel_rfl
theorem cel9 : Tryd.prog.cellsOf 9 = 1 := by kernel_rfl
theorem cel3 : Tryd.prog.cellsOf 3 = 1 := by kernel_rfl
theorem cel5 : Tryd.prog.cellsOf 5 = 1 := by kernel_rfl
/-- A header that came in. -/
theorem hd_in {r : Reach} {b0 : Nat} {v : Value} {d : DataW H} {p : List MemPlace} (hval : Value.okWide Tryd.prog w r b0 36 v) (h : DataW.Trod enc Tryd.prog w base sp held 36 v d p) : ∃ x : Hd, v = .agg x.cells.toArray ∧ x.name.length ≤ maxLen ∧ x.link.length ≤ maxLen := by
  obtain ⟨cs, rfl, hsz⟩ := okWide_struct Tryd.underlying36 hval
  rw [cel36] at hsz
  obtain ⟨fuel, hf⟩ := h
  obtain ⟨xs, n, _, hx, _, hlen, hg⟩ := DataW.trod_struct Tryd.underlying36 hf
  have key : ∀ j, j < 10 → (Value.agg cs).cells.toList.drop j = cs.toList.getD j undef :: cs.toList.drop (j + 1) := fun j hj => by
    show cs.toList.drop j = _
    have hl : j < cs.toList.length := by simpa [hsz] using hj
    rw [List.drop_eq_getElem_cons hl, List.getD_eq_getElem?_getD, List.getElem?_eq_getElem hl]
    rfl
  have str : ∀ (j : Nat) (f : Field), j < 10 → (Tryd.prog.underlying f.type = some .string) → Tryd.prog.cellsOf f.type = 1 → f.offset = j → (∃ y, DataW.trod enc Tryd.prog w base sp held n f.type (((Value.agg cs).cells.toList.drop f.offset).take (Tryd.prog.cellsOf f.type)) = some y) → ∃ s : List UInt8, cs.toList.getD j undef = .string (strOf s) ∧ s.length ≤ maxLen := by
    intro j f hj hu hc ho ⟨y, hy⟩
    rw [ho, hc, key j hj] at hy
    obtain ⟨s, h1, _, h3⟩ := DataW.trod_string hu hy
    have h4 : cs.toList.getD j undef = .string s := by simpa using h1
    exact ⟨s.data.toList, by rw [h4, strOf_of], by rw [← strOf_size, strOf_of]; exact h3⟩
  have int : ∀ (j : Nat) (f : Field) (k : IntKind), j < 10 → (Tryd.prog.underlying f.type = some (.int k)) → Tryd.prog.cellsOf f.type = 1 → f.offset = j → (∃ y, DataW.trod enc Tryd.prog w base sp held n f.type (((Value.agg cs).cells.toList.drop f.offset).take (Tryd.prog.cellsOf f.type)) = some y) → ∃ z : Int, cs.toList.getD j undef = .int k z ∧ (Lit.int k z).wf = true := by
    intro j f k hj hu hc ho ⟨y, hy⟩
    rw [ho, hc, key j hj] at hy
    obtain ⟨z, h1, _, h3⟩ := DataW.trod_int hu hy
    exact ⟨z, by simpa using h1, h3⟩
  have ex : ∀ (j : Nat) (f : Field), (DataW.trod enc Tryd.prog w base sp held n f.type (((Value.agg cs).cells.toList.drop f.offset).take (Tryd.prog.cellsOf f.type)) = xs[j]?) → j < xs.length → ∃ y, DataW.trod enc Tryd.prog w base sp held n f.type (((Value.agg cs).cells.toList.drop f.offset).take (Tryd.prog.cellsOf f.type)) = some y := fun j f h1 hj => ⟨xs[j], h1.trans (List.getElem?_eq_getElem hj)⟩
  have hx10 : xs.length = 10 := hlen.trans rfl
  obtain ⟨s0, q0, r0⟩ := str 0 _ (by decide) Tryd.underlying9 cel9 rfl (ex 0 _ (hg 0 _ rfl) (by omega))
  obtain ⟨z1, q1, r1⟩ := int 1 _ .i64 (by decide) Tryd.underlying3 cel3 rfl (ex 1 _ (hg 1 _ rfl) (by omega))
  obtain ⟨z2, q2, r2⟩ := int 2 _ .i64 (by decide) Tryd.underlying3 cel3 rfl (ex 2 _ (hg 2 _ rfl) (by omega))
  obtain ⟨z3, q3, r3⟩ := int 3 _ .i64 (by decide) Tryd.underlying3 cel3 rfl (ex 3 _ (hg 3 _ rfl) (by omega))
  obtain ⟨z4, q4, r4⟩ := int 4 _ .i64 (by decide) Tryd.underlying3 cel3 rfl (ex 4 _ (hg 4 _ rfl) (by omega))
  obtain ⟨z5, q5, r5⟩ := int 5 _ .i64 (by decide) Tryd.underlying3 cel3 rfl (ex 5 _ (hg 5 _ rfl) (by omega))
  obtain ⟨z6, q6, r6⟩ := int 6 _ .u8 (by decide) Tryd.underlying5 cel5 rfl (ex 6 _ (hg 6 _ rfl) (by omega))
  obtain ⟨s7, q7, r7⟩ := str 7 _ (by decide) Tryd.underlying9 cel9 rfl (ex 7 _ (hg 7 _ rfl) (by omega))
  obtain ⟨z8, q8, r8⟩ := int 8 _ .i64 (by decide) Tryd.underlying3 cel3 rfl (ex 8 _ (hg 8 _ rfl) (by omega))
  obtain ⟨z9, q9, r9⟩ := int 9 _ .i64 (by decide) Tryd.underlying3 cel3 rfl (ex 9 _ (hg 9 _ rfl) (by omega))
  refine ⟨⟨s0, z1, z2, z3, z4, z5, UInt8.ofNat z6.toNat, s7, z8, z9⟩, ?_, r0, r7⟩
  congr 1
  obtain ⟨l⟩ := cs
  match l, hsz with
  | [c0, c1, c2, c3, c4, c5, c6, c7, c8, c9], _ =>
    have q6' : c6 = B8 (UInt8.ofNat z6.toNat) := q6.trans (congrArg (Value.int .u8) (u8_in r6).symm)
    rw [show c0 = _ from q0, show c1 = _ from q1, show c2 = _ from q2, show c3 = _ from q3, show c4 = _ from q4, show c5 = _ from q5, q6', show c7 = _ from q7, show c8 = _ from q8, show c9 = _ from q9]
    rfl
end
theorem plc_of_laid {l : List (String × DataW Unit)} {w : World} (h : laidMet Tryd.prog l w) (hm : ("onionskin/header.places", Rows.laid_onionskin_header_places) ∈ l) : Plc w.heap := by
  obtain ⟨g, t, cs, fuel, p, hg, ht, hv, htr⟩ := Go.Lib.laidMet.reads h hm
  have hg0 : Tryd.prog.globalNamed "onionskin/header.places" = some 0 := by kernel_rfl
  obtain rfl : g = 0 := Option.some.inj (hg.symm.trans hg0)
  have ht0 : (Tryd.prog.globals[0]?).map (·.type) = some 55 := by kernel_rfl
  obtain rfl : t = 55 := Option.some.inj (ht.symm.trans ht0)
  have hc54 : Tryd.prog.cellsOf 54 = 2 := by kernel_rfl
  have helem : ∀ i, i < 7 → ((cs.toList.drop (i * 2)).take 2) = [I64 ((fAt.getD i 0 : Nat) : Int), I64 ((fSz.getD i 0 : Nat) : Int)] := by
    intro i hi
    obtain ⟨fuel', d, q, hd, h1⟩ := Go.Lib.array_elem Tryd.underlying55 htr i hi
    rw [hc54] at h1
    have hd' : d = .agg ([((fAt.getD i 0 : Nat) : Int), ((fSz.getD i 0 : Nat) : Int)].map fun z => .lit (.int .i64 z)) := by
      rcases i with _ | _ | _ | _ | _ | _ | _ | i <;> first | exact (Option.some.inj hd).symm | omega
    rw [hd'] at h1
    exact Go.Lib.ints_of_struct (k := .i64) (zs := [((fAt.getD i 0 : Nat) : Int), ((fSz.getD i 0 : Nat) : Int)]) Tryd.underlying54 (fun j f hj => by
      rcases j with _ | _ | j
      · cases hj; exact ⟨Tryd.underlying3, rfl, cel3⟩
      · cases hj; exact ⟨Tryd.underlying3, rfl, cel3⟩
      · cases hj) hc54 h1
  have hcl : cs.size = 14 := by
    obtain ⟨ys, m, rfl, _, hl, _⟩ := DataW.trod_array Tryd.underlying55 htr
    rw [show Tryd.prog.cellsOf 55 = 14 by kernel_rfl] at hl
    simpa using hl
  have hcs : cs.toList = plcs.map I64 := by
    obtain ⟨l⟩ := cs
    match l, hcl with
    | [c0, c1, c2, c3, c4, c5, c6, c7, c8, c9, c10, c11, c12, c13], _ =>
      have h0 := helem 0 (by decide)
      have h1 := helem 1 (by decide)
      have h2 := helem 2 (by decide)
      have h3 := helem 3 (by decide)
      have h4 := helem 4 (by decide)
      have h5 := helem 5 (by decide)
      have h6 := helem 6 (by decide)
      simp at h0 h1 h2 h3 h4 h5 h6
      obtain ⟨rfl, rfl⟩ := h0
      obtain ⟨rfl, rfl⟩ := h1
      obtain ⟨rfl, rfl⟩ := h2
      obtain ⟨rfl, rfl⟩ := h3
      obtain ⟨rfl, rfl⟩ := h4
      obtain ⟨rfl, rfl⟩ := h5
      obtain ⟨rfl, rfl⟩ := h6
      rfl
  unfold World.var? at hv
  rw [hg0, Option.bind_some] at hv
  split at hv
  · rename_i c ty fr hb
    cases hv
    refine ⟨ty, fr, ?_⟩
    rw [← hcs, Array.toArray_toList]
    exact hb
  · cases hv
end Go.Proofs.YtfogkggkjmkdiaaDoor
