/- The document's store beside the program's: its answers, told of the program's blobs. -/
import Derived.Test.YtklelhfgbjpifaaSx4
namespace Go.Proofs.Ytklelhfgbjpifaa
set_option linter.unnecessarySimpa false
set_option linter.unusedSimpArgs false
set_option linter.unusedVariables false
open Go.RowKit
theorem Rel.len {M R : Blobs} (h : Rel M R) : R.length = M.length := h.perm.length_eq
theorem putRX_ch {F : Nat → Prop} (h : Heap) (y : Nat) (room : Int) (M R M' : Blobs) (xs : List UInt8) (d : Dg) (e : Int) (a : Option Addr) (cap : Nat) (hrel : Rel M R) (hp : putO room M xs = (M', d, e)) (hR : Rst F h y room R) (hsrc : Byt h a xs) (hcap : xs.length ≤ cap) (hlen : xs.length ≤ 100000) (ht : tot M ≤ 1000000000) (hl : M.length ≤ 1000000) :
    CH Try.prog 19 #[.pointer (some ⟨y, 0, none⟩), .slice a xs.length cap] h fun v h' => v = .tuple #[keyV d, I64 e] ∧ ∃ R', Rel M' R' ∧ Rst (fun j => F j ∨ h.size ≤ j) h' y room R' ∧ ExB y h h' := by
  have h1 := putR_ch h y room R xs a cap hR hsrc hcap hlen (by rw [tot_perm hrel.perm]; exact ht) (by rw [hrel.len]; exact hl)
  obtain ⟨q1, q2⟩ := hrel.put room xs
  rw [hp] at q1 q2
  obtain ⟨R', d', e', hp'⟩ : ∃ R' d' e', putRO room R xs = (R', d', e') := ⟨_, _, _, rfl⟩
  rw [hp'] at h1 q1 q2
  cases q2
  exact h1.mono fun v h' ⟨x1, x2, x3⟩ => ⟨x1, R', q1, x2, x3⟩
theorem getRX_ch {F : Nat → Prop} (h : Heap) (y : Nat) (room : Int) (M R : Blobs) (x : Dg) (hrel : Rel M R) (hR : Rst F h y room R) (hl : M.length ≤ 1000000) :
    CH Try.prog 22 #[.pointer (some ⟨y, 0, none⟩), keyV x] h fun v h' => ∃ a c, v = .tuple #[.slice a ((lookM M x).getD []).length c, .bool (lookM M x).isSome] ∧ Byt h' a ((lookM M x).getD []) ∧ ((lookM M x).getD []).length ≤ c ∧ Ext h h' := by
  have h1 := getR_ch h y room R x hR (by rw [hrel.len]; exact hl)
  rw [hrel.at, hrel.hit] at h1
  exact h1
theorem sizeRX_ch {F : Nat → Prop} (h : Heap) (y : Nat) (room : Int) (M R : Blobs) (x : Dg) (hrel : Rel M R) (hR : Rst F h y room R) (hl : M.length ≤ 1000000) :
    CH Try.prog 25 #[.pointer (some ⟨y, 0, none⟩), keyV x] h fun v h' => v = I64 (sizeO M x) ∧ Ext h h' := by
  have h1 := sizeR_ch h y room R x hR (by rw [hrel.len]; exact hl)
  rw [hrel.size] at h1
  exact h1
theorem usedRX_ch {F : Nat → Prop} (h : Heap) (y : Nat) (room : Int) (M R : Blobs) (hrel : Rel M R) (hR : Rst F h y room R) (ht : tot M ≤ 1000000000) (hl : M.length ≤ 1000000) : CH Try.prog 27 #[.pointer (some ⟨y, 0, none⟩)] h fun v h' => v = I64 (tot M : Int) ∧ Ext h h' := by
  have h1 := usedRx_ch h y room R hR (by rw [tot_perm hrel.perm]; exact ht) (by rw [hrel.len]; exact hl)
  rw [tot_perm hrel.perm] at h1
  exact h1
/-- How many bytes a store may have come to. -/
theorem put_tot_le (room : Int) (M : Blobs) (xs : List UInt8) : tot (putO room M xs).1 ≤ tot M + xs.length := by
  unfold putO
  split
  · simp
  · split
    · simp
    · rw [tot_append]; simp [tot]
theorem ExB.refl (b : Nat) (h : Heap) : ExB b h h := ⟨Nat.le_refl _, fun _ _ _ => rfl⟩
end Go.Proofs.Ytklelhfgbjpifaa
