/- The law DigestBack: whatever the input, the call returns true, and the input reads as it did. There are no conditions. -/
import Derived.Test.YtbfmkjfpialihaaLaw
import Derived.Test.YtbfmkjfpialihaaStrs
import Derived.Test.YtbfmkjfpialihaaChecked
import Derived.Test.YtbfmkjfpialihaaLf
namespace Go.Proofs.Ytbfmkjfpialihaa
open Go.ChangeShapes Go.WideShapes Go.ChangeAt Go.RowKit
open Go.ChangeMaps (open_string shut_string)
set_option linter.unusedVariables false
theorem ownDigestBack : ownKnob Try.prog.godebug = none := by kernel_rfl
theorem laidOutDigestBack : laidOutB Try.prog = true := by kernel_rfl
theorem walkDigestBack (xs0 : List UInt8) (xs1 : List UInt8) (w : World) (h0 : xs0.length = 32) (h1 : xs1.length ≤ maxLen) :
    Calls Try.prog 9 #[.agg (xs0.map B8).toArray, .string (strOf xs1)] w fun e w' => e = .returned (.bool true) ∧ Below w.heap.size w w' :=
  (lawBack_ch w.heap xs0 xs1 h0 w rfl).mono fun e w' ⟨v, he, hr, hv, hx⟩ => ⟨by rw [he, hv], below_of hr hx⟩
set_option maxRecDepth 100000 in
theorem liftedDigestBack (os : Os) (started : os.Started) (H : Type) (enc : TypeId × Value → H) :
    ReturnsInHanded {} Try.checked os 9 .any (Rows.digestBackSpec.pre6 enc Try.prog Try.f9 Rows.digestBackRow.domain false) (Rows.digestBackSpec.post enc Try.prog Try.f9 false true false false) := by
  refine returnsInHanded_of_change (C := Try.checked) ownDigestBack started (by kernel_rfl) Try.func9
    (ChangeSpec.witness6 (enc := enc) (C := Try.checked) false ⟨#[], #[.agg (Array.replicate 32 (.int .u8 0)), .string ByteArray.empty], []⟩ 64 (by kernel_rfl) (by kernel_rfl) (by kernel_rfl) (by kernel_rfl)) ?_
  intro W base args ds gs before hval0 hW hcnd _
  have hval : ∀ (j : Nat) t v, Try.f9.params[j]? = some t → args[j]? = some v → Value.okWide Try.prog W .any base t v := hval0
  have hW' := hW
  obtain ⟨p, q, hA0, hV, rfl, hfz, hnd⟩ := hW
  have hA : DataW.TrodAll enc Try.prog W 0 (fun _ => true) true Try.f9.params.toList args.toList ds p := hA0
  rw [Try.params9] at hA hval
  obtain ⟨v0, vs0, d0, ds0, p0, q0, hargs, rfl, rfl, h0, r0⟩ := trodAll_cons hA
  obtain ⟨v1, vs1, d1, ds1, p1, q1, rfl, rfl, rfl, h1, r1⟩ := trodAll_cons r0
  obtain ⟨rfl, rfl, rfl⟩ := trodAll_nil r1
  obtain rfl : args = #[v0, v1] := by cases args; simp_all
  obtain ⟨rfl, rfl⟩ := trodVars_none hV
  have k0 := h0
  have lt0 : ∀ x ∈ p0, x.block < W.heap.size := by obtain ⟨m, hm⟩ := k0; exact DataW.trod_lt m _ _ _ hm
  obtain ⟨xs0, rfl, b0⟩ := arr_in Try.underlying25 Try.underlying5 (by kernel_rfl) (by kernel_rfl) (hval 0 25 v0 rfl rfl) h0
  obtain ⟨a1, rfl, rfl, rfl, w1⟩ := open_string Try.underlying9 (hval 1 9 v1 rfl rfl) h1
  obtain ⟨xs1, rfl⟩ : ∃ l, a1 = strOf l := ⟨_, (strOf_of a1).symm⟩
  clear hA0 hval0
  refine (walkDigestBack xs0 xs1 W b0 (by rw [← strOf_size]; exact w1)).mono fun e W' ⟨he, bel⟩ => ?_
  subst he
  exact ⟨_, rfl, _, _, _, [], _, [], hW', trodAll_mk1 (shut_bool Try.underlying4 _), (trodAll_cons_mk (Below.trod laidOutDigestBack (by kernel_rfl) (of_decide_eq_true (by kernel_rfl)) k0 bel lt0) (trodAll_cons_mk (shut_string Try.underlying9 w1) trodAll_mk0)), rfl, bel.frame _, fun h => by cases h⟩
theorem overDigestBack : Rows.digestBackRow.holds Try.pinned (OpenSpec.ofChange Rows.digestBackSpec) :=
  OpenClaim.holds_of_wide 9 Try.f9 rfl rfl rfl rfl rfl rfl rfl ⟨rfl, rfl, rfl, rfl, rfl⟩ rfl rfl rfl rfl rfl (by kernel_rfl) Try.func9 (by kernel_rfl)
    (of_decide_eq_true (by kernel_rfl)) (by unfold Func.isWrapper; first | (rw [if_pos (by decide +kernel)]; kernel_rfl) | (rw [if_neg (by decide +kernel)]; exact ⟨rfl, rfl⟩))
    (fun os started H enc _ => liftedDigestBack os started H enc)
theorem provedDigestBack : Rows.DigestBackSaid := overDigestBack
#print axioms provedDigestBack
end Go.Proofs.Ytbfmkjfpialihaa
