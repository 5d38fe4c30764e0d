/- The law BatchStore: whatever the input, the call returns true, and the input reads as it did. There are no conditions. -/
import Derived.Test.YtklelhfgbjpifaaLaw
import Derived.Test.YtklelhfgbjpifaaStrs
import Derived.Test.YtklelhfgbjpifaaChecked
import Derived.Test.YtklelhfgbjpifaaBt
namespace Go.Proofs.Ytklelhfgbjpifaa
open Go.ChangeShapes Go.WideShapes Go.ChangeAt Go.RowKit
open Go.ChangeMaps (open_string shut_string)
set_option linter.unusedVariables false
theorem ownBatchStore : ownKnob Try.prog.godebug = none := by kernel_rfl
theorem laidOutBatchStore : laidOutB Try.prog = true := by kernel_rfl
theorem walkBatchStore (a0 : Option Addr) (l0 : List (Option Addr × Nat × List UInt8)) (c0 : Nat) (w : World) (h0 : Byts w.heap a0 l0) (k0 : l0.length ≤ c0) (m0 : c0 ≤ maxLen) (z0 : ∀ x ∈ l0, x.2.2.length ≤ 140737488355328) :
    Calls Try.prog 11 #[.slice a0 l0.length c0] w fun e w' => e = .returned (.bool true) ∧ Below w.heap.size w w' :=
  (lawStore_ch w.heap l0 a0 c0 h0 (Nat.le_trans k0 m0) z0 w rfl).mono fun e w' ⟨v, he, hr, hv, hx⟩ => ⟨by rw [he, hv], below_of hr hx⟩
set_option maxRecDepth 100000 in
theorem liftedBatchStore (os : Os) (started : os.Started) (H : Type) (enc : TypeId × Value → H) :
    ReturnsInHanded {} Try.checked os 11 .any (Rows.batchStoreSpec.pre6 enc Try.prog Try.f11 Rows.batchStoreRow.domain false) (Rows.batchStoreSpec.post enc Try.prog Try.f11 false true false false) := by
  refine returnsInHanded_of_change_sized (C := Try.checked) ownBatchStore started (by kernel_rfl) Try.func11
    (ChangeSpec.witness6 (enc := enc) (C := Try.checked) false ⟨#[], #[.slice none 0 0], []⟩ 64 (by kernel_rfl) (by kernel_rfl) (by kernel_rfl) (by kernel_rfl)) ?_
  intro W base args ds gs before hval0 hW hcnd hsz _
  have hval : ∀ (j : Nat) t v, Try.f11.params[j]? = some t → args[j]? = some v → Value.okWide Try.prog W .any base t v := hval0
  have hW' := hW
  obtain ⟨p, q, hA0, hV, rfl, hfz, hnd⟩ := hW
  have hA : DataW.TrodAll enc Try.prog W 0 (fun _ => true) true Try.f11.params.toList args.toList ds p := hA0
  rw [Try.params11] at hA hval
  rw [Try.params11] at hsz
  obtain ⟨v0, vs0, d0, ds0, p0, q0, hargs, rfl, rfl, h0, r0⟩ := trodAll_cons hA
  obtain ⟨rfl, rfl, rfl⟩ := trodAll_nil r0
  obtain rfl : args = #[v0] := by cases args; simp_all
  obtain ⟨rfl, rfl⟩ := trodVars_none hV
  obtain ⟨a0, len0, c0, rfl⟩ := okWide_slice Try.underlying22 (hval 0 22 v0 rfl rfl)
  have k0 := h0
  have lt0 : ∀ x ∈ p0, x.block < W.heap.size := by obtain ⟨m, hm⟩ := k0; exact DataW.trod_lt m _ _ _ hm
  have wt0 : ∀ n ∈ d0.weights Try.prog 22, n ≤ 140737488355328 := fun n hn => by
    have := List.all_eq_true.1 hsz n (DataW.weights_mem_each (j := 0) rfl rfl n hn)
    have h1 : n ≤ reachBytes := by simpa using this
    exact Nat.le_trans h1 (by decide)
  obtain ⟨l0, rfl, b0, e0, g0, s0⟩ := byts_inS Try.underlying22 Try.underlying29 Try.underlying5 (by kernel_rfl) (by kernel_rfl) (by kernel_rfl) h0 wt0
  clear hA0 hval0
  refine (walkBatchStore a0 l0 c0 W b0 e0 g0 s0).mono fun e W' ⟨he, bel⟩ => ?_
  subst he
  exact ⟨_, rfl, _, _, _, [], _, [], hW', trodAll_mk1 (shut_bool Try.underlying4 _), (trodAll_cons_mk (Below.trod laidOutBatchStore (by kernel_rfl) (of_decide_eq_true (by kernel_rfl)) k0 bel lt0) trodAll_mk0), rfl, bel.frame _, fun h => by cases h⟩
theorem overBatchStore : Rows.batchStoreRow.holds Try.pinned (OpenSpec.ofChange Rows.batchStoreSpec) :=
  OpenClaim.holds_of_wide 11 Try.f11 rfl rfl rfl rfl rfl rfl rfl ⟨rfl, rfl, rfl, rfl, rfl⟩ rfl rfl rfl rfl rfl (by kernel_rfl) Try.func11 (by kernel_rfl)
    (of_decide_eq_true (by kernel_rfl)) (by unfold Func.isWrapper; first | (rw [if_pos (by decide +kernel)]; kernel_rfl) | (rw [if_neg (by decide +kernel)]; exact ⟨rfl, rfl⟩))
    (fun os started H enc _ => liftedBatchStore os started H enc)
theorem provedBatchStore : Rows.BatchStoreSaid := overBatchStore
#print axioms provedBatchStore
end Go.Proofs.Ytklelhfgbjpifaa
