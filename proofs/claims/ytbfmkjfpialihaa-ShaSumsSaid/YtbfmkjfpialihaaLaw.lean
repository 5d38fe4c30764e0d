/- Arguments, opened: what the walks are told of them. -/
import Derived.Test.YtbfmkjfpialihaaBytes
import Derived.Test.YtbfmkjfpialihaaRows
import Derived.WalkKit
import Derived.ProofKit
import Derived.OpenShut
import Derived.ShutString
import Derived.ChangeOld
import Derived.Below
namespace Go.Proofs.Ytbfmkjfpialihaa
set_option linter.unnecessarySimpa false
set_option linter.unusedSimpArgs false
open Go.ChangeShapes Go.WideShapes Go.ChangeAt Go.RowKit
set_option linter.unusedVariables false
/-- A slice of integers that came in. -/
def IsRow (k : IntKind) (w : World) (a : Option Addr) (len cap : Nat) (zs : List Int) : Prop :=
  (a = none ∧ len = 0 ∧ cap = 0 ∧ zs = []) ∨
  ∃ x, a = some x ∧ len ≤ cap ∧ cap ≤ maxLen ∧ zs.length = cap ∧ (∀ i, i < zs.length → w.cell? (x.add i) = some (.int k (zs.getD i 0))) ∧ ∀ n ∈ zs, (Lit.int k n).wf = true
theorem u8_in {n : Int} (h : (Lit.int .u8 n).wf = true) : ((UInt8.ofNat n.toNat).toNat : Int) = n := by
  have h1 : 0 ≤ n ∧ n < 256 := by
    simp [Lit.wf, IntKind.min, IntKind.max, IntKind.bits, IntKind.signed] at h
    omega
  rw [UInt8.toNat_ofNat']
  omega
theorem bytes_in {w : World} {a : Option Addr} {len cap : Nat} {zs : List Int} (h : IsRow .u8 w a len cap zs) : ∃ xs : List UInt8, xs.length = len ∧ Byt w.heap a xs ∧ xs.length ≤ cap ∧ cap ≤ maxLen := by
  rcases h with ⟨rfl, rfl, rfl, rfl⟩ | ⟨x, rfl, hl, hm, hz, hc, hw⟩
  · exact ⟨[], rfl, .inl rfl, Nat.le_refl _, Nat.zero_le _⟩
  · refine ⟨(zs.take len).map fun n => UInt8.ofNat n.toNat, by simp; omega, ?_, by simp; omega, hm⟩
    by_cases h0 : len = 0
    · subst h0; exact .inl (by simp)
    · obtain ⟨b, o, spot⟩ := x
      have h1 := hc 0 (by omega)
      have hspot : spot = none := by simpa [Addr.add] using World.cell?_spot h1
      subst hspot
      refine .inr ⟨b, o, rfl, fun j hj => ?_⟩
      simp at hj
      have h2 := hc j (by omega)
      rw [addr_add, cell_cellH] at h2
      rw [h2]
      have hjz : j < zs.length := by omega
      have h3 : zs.getD j 0 ∈ zs := by
        rw [List.getD_eq_getElem?_getD, List.getElem?_eq_getElem hjz]
        exact List.getElem_mem hjz
      have h4 : ((zs.take len).map fun n => UInt8.ofNat n.toNat).getD j 0 = UInt8.ofNat (zs.getD j 0).toNat := by
        simp [hj, hjz]
      rw [h4]
      show some (Value.int .u8 _) = some (Value.int .u8 _)
      rw [u8_in (hw _ h3)]
end Go.Proofs.Ytbfmkjfpialihaa
