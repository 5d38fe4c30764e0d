/- The law ShaTwo: whatever the input, the call returns true, and the input reads as it did. There are no conditions. -/
import Derived.Test.YtbfmkjfpialihaaLaw
import Derived.Test.YtbfmkjfpialihaaChecked
import Derived.Test.YtbfmkjfpialihaaLe
import Derived.Deep.Matrix
namespace Go.Proofs.Ytbfmkjfpialihaa
open Go.ChangeShapes Go.WideShapes Go.ChangeAt Go.RowKit
open Go.ChangeMaps (open_string shut_string)
set_option linter.unusedVariables false
theorem ownShaTwo : ownKnob Try.prog.godebug = none := by kernel_rfl
theorem laidOutShaTwo : laidOutB Try.prog = true := by kernel_rfl
theorem walkShaTwo (a0 : Option Addr) (l0 : List (Option Addr × Nat × List UInt8)) (c0 : Nat) (a1 : Option Addr) (l1 : List (Option Addr × Nat × List UInt8)) (c1 : Nat) (w : World) (h0 : Byts w.heap a0 l0) (k0 : l0.length ≤ c0) (m0 : c0 ≤ maxLen) (h1 : Byts w.heap a1 l1) (k1 : l1.length ≤ c1) (m1 : c1 ≤ maxLen) :
    Calls Try.prog 6 #[.slice a0 l0.length c0, .slice a1 l1.length c1] w fun e w' => e = .returned (.bool true) ∧ Below w.heap.size w w' :=
  (lawTwo_ch w.heap l0 l1 a0 a1 c0 c1 h0 h1 w rfl).mono fun e w' ⟨v, he, hr, hv, hx⟩ => ⟨by rw [he, hv], below_of hr hx⟩
set_option maxRecDepth 100000 in
theorem liftedShaTwo (os : Os) (started : os.Started) (H : Type) (enc : TypeId × Value → H) :
    ReturnsInHanded {} Try.checked os 6 .any (Rows.shaTwoSpec.pre6 enc Try.prog Try.f6 Rows.shaTwoRow.domain false) (Rows.shaTwoSpec.post enc Try.prog Try.f6 false true false false) := by
  refine returnsInHanded_of_change (C := Try.checked) ownShaTwo started (by kernel_rfl) Try.func6
    (ChangeSpec.witness6 (enc := enc) (C := Try.checked) false ⟨#[], #[.slice none 0 0, .slice none 0 0], []⟩ 64 (by kernel_rfl) (by kernel_rfl) (by kernel_rfl) (by kernel_rfl)) ?_
  intro W base args ds gs before hval0 hW hcnd _
  have hval : ∀ (j : Nat) t v, Try.f6.params[j]? = some t → args[j]? = some v → Value.okWide Try.prog W .any base t v := hval0
  have hW' := hW
  obtain ⟨p, q, hA0, hV, rfl, hfz, hnd⟩ := hW
  have hA : DataW.TrodAll enc Try.prog W 0 (fun _ => true) true Try.f6.params.toList args.toList ds p := hA0
  rw [Try.params6] at hA hval
  obtain ⟨v0, vs0, d0, ds0, p0, q0, hargs, rfl, rfl, h0, r0⟩ := trodAll_cons hA
  obtain ⟨v1, vs1, d1, ds1, p1, q1, rfl, rfl, rfl, h1, r1⟩ := trodAll_cons r0
  obtain ⟨rfl, rfl, rfl⟩ := trodAll_nil r1
  obtain rfl : args = #[v0, v1] := by cases args; simp_all
  obtain ⟨rfl, rfl⟩ := trodVars_none hV
  obtain ⟨a0, len0, c0, rfl⟩ := okWide_slice Try.underlying28 (hval 0 28 v0 rfl rfl)
  have k0 := h0
  have lt0 : ∀ x ∈ p0, x.block < W.heap.size := by obtain ⟨m, hm⟩ := k0; exact DataW.trod_lt m _ _ _ hm
  obtain ⟨l0, rfl, b0, e0, g0⟩ := byts_in Try.underlying28 Try.underlying22 Try.underlying5 (by kernel_rfl) (by kernel_rfl) h0
  obtain ⟨a1, len1, c1, rfl⟩ := okWide_slice Try.underlying28 (hval 1 28 v1 rfl rfl)
  have k1 := h1
  have lt1 : ∀ x ∈ p1, x.block < W.heap.size := by obtain ⟨m, hm⟩ := k1; exact DataW.trod_lt m _ _ _ hm
  obtain ⟨l1, rfl, b1, e1, g1⟩ := byts_in Try.underlying28 Try.underlying22 Try.underlying5 (by kernel_rfl) (by kernel_rfl) h1
  clear hA0 hval0
  refine (walkShaTwo a0 l0 c0 a1 l1 c1 W b0 e0 g0 b1 e1 g1).mono fun e W' ⟨he, bel⟩ => ?_
  subst he
  exact ⟨_, rfl, _, _, _, [], _, [], hW', trodAll_mk1 (shut_bool Try.underlying4 _), (trodAll_cons_mk (Below.trod laidOutShaTwo (by kernel_rfl) (of_decide_eq_true (by kernel_rfl)) k0 bel lt0) (trodAll_cons_mk (Below.trod laidOutShaTwo (by kernel_rfl) (of_decide_eq_true (by kernel_rfl)) k1 bel lt1) trodAll_mk0)), rfl, bel.frame _, fun h => by cases h⟩
theorem overShaTwo : Rows.shaTwoRow.holds Try.pinned (OpenSpec.ofChange Rows.shaTwoSpec) :=
  OpenClaim.holds_of_wide 6 Try.f6 rfl rfl rfl rfl rfl rfl rfl ⟨rfl, rfl, rfl, rfl, rfl⟩ rfl rfl rfl rfl rfl (by kernel_rfl) Try.func6 (by kernel_rfl)
    (of_decide_eq_true (by kernel_rfl)) (by unfold Func.isWrapper; first | (rw [if_pos (by decide +kernel)]; kernel_rfl) | (rw [if_neg (by decide +kernel)]; exact ⟨rfl, rfl⟩))
    (fun os started H enc _ => liftedShaTwo os started H enc)
theorem provedShaTwo : Rows.ShaTwoSaid := overShaTwo
#print axioms provedShaTwo
end Go.Proofs.Ytbfmkjfpialihaa
