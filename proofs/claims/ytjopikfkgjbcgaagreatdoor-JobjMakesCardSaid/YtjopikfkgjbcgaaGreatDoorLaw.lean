/- Arguments, opened: what the walks are told of them. -/
import Derived.Test.YtjopikfkgjbcgaaGreatDoorBytes
import Derived.Test.YtjopikfkgjbcgaaGreatDoorRows
import Derived.WalkKit
import Derived.ProofKit
import Derived.OpenShut
import Derived.ShutString
import Derived.ChangeOld
import Derived.Below
import Derived.Deep.Matrix
import Derived.SizedLaws
namespace Go.Proofs.YtjopikfkgjbcgaaGreatDoor
set_option linter.unnecessarySimpa false
set_option linter.unusedSimpArgs false
open Go.ChangeShapes Go.WideShapes Go.ChangeAt Go.RowKit
set_option linter.unusedVariables false
/-- A slice of integers that came in. -/
def IsRow (k : IntKind) (w : World) (a : Option Addr) (len cap : Nat) (zs : List Int) : Prop :=
  (a = none ∧ len = 0 ∧ cap = 0 ∧ zs = []) ∨
  ∃ x, a = some x ∧ len ≤ cap ∧ cap ≤ maxLen ∧ zs.length = cap ∧ (∀ i, i < zs.length → w.cell? (x.add i) = some (.int k (zs.getD i 0))) ∧ ∀ n ∈ zs, (Lit.int k n).wf = true
theorem u8_in {n : Int} (h : (Lit.int .u8 n).wf = true) : ((UInt8.ofNat n.toNat).toNat : Int) = n := by
  have h1 : 0 ≤ n ∧ n < 256 := by
    simp [Lit.wf, IntKind.min, IntKind.max, IntKind.bits, IntKind.signed] at h
    omega
  rw [UInt8.toNat_ofNat']
  omega
theorem bytes_in {w : World} {a : Option Addr} {len cap : Nat} {zs : List Int} (h : IsRow .u8 w a len cap zs) : ∃ xs : List UInt8, xs.length = len ∧ Byt w.heap a xs ∧ xs.length ≤ cap ∧ cap ≤ maxLen := by
  rcases h with ⟨rfl, rfl, rfl, rfl⟩ | ⟨x, rfl, hl, hm, hz, hc, hw⟩
  · exact ⟨[], rfl, .inl rfl, Nat.le_refl _, Nat.zero_le _⟩
  · refine ⟨(zs.take len).map fun n => UInt8.ofNat n.toNat, by simp; omega, ?_, by simp; omega, hm⟩
    by_cases h0 : len = 0
    · subst h0; exact .inl (by simp)
    · obtain ⟨b, o, spot⟩ := x
      have h1 := hc 0 (by omega)
      have hspot : spot = none := by simpa [Addr.add] using World.cell?_spot h1
      subst hspot
      refine .inr ⟨b, o, rfl, fun j hj => ?_⟩
      simp at hj
      have h2 := hc j (by omega)
      rw [addr_add, cell_cellH] at h2
      rw [h2]
      have hjz : j < zs.length := by omega
      have h3 : zs.getD j 0 ∈ zs := by
        rw [List.getD_eq_getElem?_getD, List.getElem?_eq_getElem hjz]
        exact List.getElem_mem hjz
      have h4 : ((zs.take len).map fun n => UInt8.ofNat n.toNat).getD j 0 = UInt8.ofNat (zs.getD j 0).toNat := by
        simp [hj, hjz]
      rw [h4]
      show some (Value.int .u8 _) = some (Value.int .u8 _)
      rw [u8_in (hw _ h3)]
section
variable {H : Type} {enc : TypeId × Value → H} {P : Program} {w : World} {base : Nat} {held : Bool}
/-- A slice of byte slices that came in. -/
theorem byts_in {t e q : TypeId} {a : Option Addr} {len cap : Nat} {d : DataW H} {p : List MemPlace} (ht : P.underlying t = some (.slice e)) (he : P.underlying e = some (.slice q)) (hq : P.underlying q = some (.int .u8)) (ce : P.cellsOf e = 1) (cq : P.cellsOf q = 1)
    (h : DataW.Trod enc P w base (fun _ => true) held t (.slice a len cap) d p) : ∃ l : List (Option Addr × Nat × List UInt8), l.length = len ∧ Byts w.heap a l ∧ l.length ≤ cap ∧ cap ≤ maxLen := by
  obtain ⟨fuel, hf⟩ := h
  rcases Go.Deep.open_int_rows ht he hq ce cq hf with ⟨hcs, _⟩ | ⟨x, l, c, A, L, C, Z, hcs, _, hl, hm, _, hr⟩
  · simp [Value.cells] at hcs
    obtain ⟨rfl, rfl, rfl⟩ := hcs
    exact ⟨[], rfl, .inl rfl, Nat.le_refl _, Nat.zero_le _⟩
  · simp [Value.cells] at hcs
    obtain ⟨rfl, rfl, rfl⟩ := hcs
    by_cases h0 : len = 0
    · subst h0
      exact ⟨[], rfl, .inl rfl, Nat.zero_le _, hm⟩
    · obtain ⟨b, o, spot⟩ := x
      have h1 := (hr 0 (by omega)).1
      have hspot : spot = none := by simpa [Addr.add] using World.cell?_spot h1
      subst hspot
      have each : ∀ r, r < cap → ∃ xs : List UInt8, xs.length = L r ∧ Byt w.heap (A r) xs := by
        intro r hrc
        obtain ⟨q1, q2, q3, q4, q5, q6, q7⟩ := hr r hrc
        have : IsRow .u8 w (A r) (L r) (C r) (Z r) := by
          cases hA : A r with
          | none =>
            have := q6 hA
            exact .inl ⟨rfl, by omega, this, by rw [← List.length_eq_zero_iff]; omega⟩
          | some a' => exact .inr ⟨a', rfl, q2, q3, q4, fun i hi => (q7 a' hA).2 i (by omega), q5⟩
        obtain ⟨xs, e1, e2, _⟩ := bytes_in this
        exact ⟨xs, e1, e2⟩
      refine ⟨(List.range len).map fun r => (A r, C r, if hrc : r < cap then (each r hrc).choose else []), by simp, .inr ⟨b, o, rfl, fun r x hx => ?_⟩, by simpa using hl, hm⟩
      simp only [List.getElem?_map, List.getElem?_range] at hx
      by_cases hrl : r < len
      · have hrc : r < cap := by omega
        rw [List.getElem?_range hrl] at hx
        simp only [Option.map_some, hrc, dif_pos, Option.some.injEq] at hx
        subst hx
        obtain ⟨q1, q2, q3, _⟩ := hr r hrc
        have hc := (each r hrc).choose_spec
        rw [addr_add, cell_cellH] at q1
        simp only
        rw [hc.1]
        exact ⟨q1, hc.2, q2⟩
      · exfalso
        rw [List.getElem?_eq_none (by simpa using Nat.le_of_not_lt hrl)] at hx
        cases hx
theorem weightsAll_mem {H : Type} {P : Program} {e : TypeId} : ∀ {l : List (DataW H)} {d : DataW H}, d ∈ l → ∀ n ∈ d.weights P e, n ∈ DataW.weightsAll P e l
  | y :: l, d, hd, n, hn => by
    simp only [DataW.weightsAll, List.mem_append]
    rcases List.mem_cons.1 hd with rfl | hd
    · exact .inl hn
    · exact .inr (weightsAll_mem hd n hn)
/-- A slice of byte slices that came in, none of which is larger than B. -/
theorem byts_inS {B : Nat} {t e q : TypeId} {a : Option Addr} {len cap : Nat} {d : DataW H} {p : List MemPlace} (ht : P.underlying t = some (.slice e)) (he : P.underlying e = some (.slice q)) (hq : P.underlying q = some (.int .u8)) (ce : P.cellsOf e = 1) (cq : P.cellsOf q = 1) (bq : P.bytesOf q = 1)
    (h : DataW.Trod enc P w base (fun _ => true) held t (.slice a len cap) d p) (hB : ∀ n ∈ d.weights P t, n ≤ B) : ∃ l : List (Option Addr × Nat × List UInt8), l.length = len ∧ Byts w.heap a l ∧ l.length ≤ cap ∧ cap ≤ maxLen ∧ ∀ x ∈ l, x.2.2.length ≤ B := by
  obtain ⟨fuel, hf⟩ := h
  rcases Go.Deep.open_int_rows ht he hq ce cq hf with ⟨hcs, _⟩ | ⟨x, l, c, A, L, C, Z, hcs, _, hl, hm, hd, hr⟩
  · simp [Value.cells] at hcs
    obtain ⟨rfl, rfl, rfl⟩ := hcs
    exact ⟨[], rfl, .inl rfl, Nat.le_refl _, Nat.zero_le _, fun _ h => by cases h⟩
  · simp [Value.cells] at hcs
    obtain ⟨rfl, rfl, rfl⟩ := hcs
    by_cases h0 : len = 0
    · subst h0
      exact ⟨[], rfl, .inl rfl, Nat.zero_le _, hm, fun _ h => by cases h⟩
    · obtain ⟨b, o, spot⟩ := x
      have h1 := (hr 0 (by omega)).1
      have hspot : spot = none := by simpa [Addr.add] using World.cell?_spot h1
      subst hspot
      have each : ∀ r, r < cap → ∃ xs : List UInt8, xs.length = L r ∧ Byt w.heap (A r) xs := by
        intro r hrc
        obtain ⟨q1, q2, q3, q4, q5, q6, q7⟩ := hr r hrc
        have : IsRow .u8 w (A r) (L r) (C r) (Z r) := by
          cases hA : A r with
          | none =>
            have := q6 hA
            exact .inl ⟨rfl, by omega, this, by rw [← List.length_eq_zero_iff]; omega⟩
          | some a' => exact .inr ⟨a', rfl, q2, q3, q4, fun i hi => (q7 a' hA).2 i (by omega), q5⟩
        obtain ⟨xs, e1, e2, _⟩ := bytes_in this
        exact ⟨xs, e1, e2⟩
      have small : ∀ r, r < len → L r ≤ B := by
        intro r hrl
        obtain ⟨q1, q2, q3, q4, q5, q6, q7⟩ := hr r (by omega)
        have hd1 : d = _ := congrArg Prod.fst hd
        cases hA : A r with
        | none => have := q6 hA; omega
        | some a' =>
          have hmem : C r ∈ d.weights P t := by
            rw [hd1]
            simp only [DataW.weights, ht]
            refine List.mem_cons_of_mem _ (List.mem_append.2 (.inl (weightsAll_mem (List.mem_map.2 ⟨r, List.mem_range.2 hrl, rfl⟩) _ ?_)))
            rw [hA]
            simp [Go.Deep.intRow, DataW.weights, he, bq, q4]
            left
            simp [lits, q4]
            omega
          have := hB _ hmem
          omega
      refine ⟨(List.range len).map fun r => (A r, C r, if hrc : r < cap then (each r hrc).choose else []), by simp, .inr ⟨b, o, rfl, fun r x hx => ?_⟩, by simpa using hl, hm, fun x hx => ?_⟩
      · simp only [List.getElem?_map, List.getElem?_range] at hx
        by_cases hrl : r < len
        · have hrc : r < cap := by omega
          rw [List.getElem?_range hrl] at hx
          simp only [Option.map_some, hrc, dif_pos, Option.some.injEq] at hx
          subst hx
          obtain ⟨q1, q2, q3, _⟩ := hr r hrc
          have hc := (each r hrc).choose_spec
          rw [addr_add, cell_cellH] at q1
          simp only
          rw [hc.1]
          exact ⟨q1, hc.2, q2⟩
        · exfalso
          rw [List.getElem?_eq_none (by simpa using Nat.le_of_not_lt hrl)] at hx
          cases hx
      · obtain ⟨r, hr1, rfl⟩ := List.mem_map.1 hx
        have hrl := List.mem_range.1 hr1
        have hrc : r < cap := by omega
        simp only [hrc, dif_pos]
        rw [(each r hrc).choose_spec.1]
        exact small r hrl
/-- An array of bytes that came in. -/
theorem arr_in {n : Nat} {t e : TypeId} {r : Reach} {b0 : Nat} {v : Value} {d : DataW H} {p : List MemPlace} {sp : Nat → Bool} (ht : P.underlying t = some (.array n e)) (he : P.underlying e = some (.int .u8)) (ce : P.cellsOf e = 1) (ct : P.cellsOf t = n)
    (hval : Value.okWide P w r b0 t v) (h : DataW.Trod enc P w base sp held t v d p) : ∃ xs : List UInt8, v = .agg (xs.map B8).toArray ∧ xs.length = n := by
  simp only [Value.okWide, ht] at hval
  obtain ⟨cs, rfl, hsz, _⟩ := hval
  rw [ct] at hsz
  obtain ⟨fuel, hf⟩ := h
  obtain ⟨ys, m, rfl, _, hl, hy, hx⟩ := DataW.trod_array ht hf
  have each : ∀ i, i < n → ∃ c : UInt8, cs[i]? = some (B8 c) := by
    intro i hi
    have h1 := hx i hi
    rw [ce, Nat.mul_one] at h1
    have hlt : i < cs.toList.length := by simpa [hsz] using hi
    rw [show ((Value.agg cs).cells.toList.drop i).take 1 = [cs.toList[i]] by
      show (cs.toList.drop i).take 1 = _
      rw [List.drop_eq_getElem_cons hlt]; rfl] at h1
    obtain ⟨y, hyi⟩ : ∃ y, ys[i]? = some y := ⟨_, List.getElem?_eq_getElem (by omega)⟩
    rw [hyi] at h1
    obtain ⟨c, hc0, _, hw⟩ := DataW.trod_int he h1
    have hc : cs.toList[i] = .int .u8 c := by simpa using hc0
    refine ⟨UInt8.ofNat c.toNat, ?_⟩
    show cs[i]? = some (Value.int .u8 _)
    rw [u8_in hw, ← hc]
    simp
  obtain ⟨g, hg⟩ : ∃ g : Nat → UInt8, ∀ i, i < n → cs[i]? = some (B8 (g i)) :=
    ⟨fun i => if hi : i < n then (each i hi).choose else 0, fun i hi => by
      simp only [hi, dif_pos]
      exact (each i hi).choose_spec⟩
  refine ⟨(List.range n).map g, ?_, by simp⟩
  congr 1
  apply Array.ext
  · simp [hsz]
  · intro i h1 h2
    have := hg i (by omega)
    rw [Array.getElem?_eq_getElem h1] at this
    simp only [Option.some.injEq] at this
    rw [this]
    simp
end
end Go.Proofs.YtjopikfkgjbcgaaGreatDoor
