/- The law BatchPlays: whatever the input, the call returns true, and the input reads as it did. There are no conditions. -/
import Derived.Test.YtklelhfgbjpifaaLaw
import Derived.Test.YtklelhfgbjpifaaStrs
import Derived.Test.YtklelhfgbjpifaaChecked
import Derived.Test.YtklelhfgbjpifaaCg
import Derived.Test.YtklelhfgbjpifaaLawC
namespace Go.Proofs.Ytklelhfgbjpifaa
open Go.ChangeShapes Go.WideShapes Go.ChangeAt Go.RowKit
open Go.ChangeMaps (open_string shut_string)
set_option linter.unusedVariables false
theorem ownBatchPlays : ownKnob Try.prog.godebug = none := by kernel_rfl
theorem laidOutBatchPlays : laidOutB Try.prog = true := by kernel_rfl
theorem walkBatchPlays (a0 : Int) (a1 : Option Addr) (l1 : List Cl) (c1 : Nat) (w : World) (h0 : (Lit.int .i64 a0).wf = true) (h1 : Cls w.heap a1 l1) (k1 : l1.length ≤ c1) (m1 : c1 ≤ maxLen) (z1 : ∀ x ∈ rowsOf l1, x.2.2.length ≤ 140737488355328) :
    Calls Try.prog 9 #[.int .i64 a0, .slice a1 l1.length c1] w fun e w' => e = .returned (.bool true) ∧ Below w.heap.size w w' :=
  (lawBPlays_ch w.heap a0 l1 a1 c1 h1 (Nat.le_trans k1 m1) z1 w rfl).mono fun e w' ⟨v, he, hr, hv, hx⟩ => ⟨by rw [he, hv], below_of hr hx⟩
set_option maxRecDepth 100000 in
theorem liftedBatchPlays (os : Os) (started : os.Started) (H : Type) (enc : TypeId × Value → H) :
    ReturnsInHanded {} Try.checked os 9 .any (Rows.batchPlaysSpec.pre6 enc Try.prog Try.f9 Rows.batchPlaysRow.domain false) (Rows.batchPlaysSpec.post enc Try.prog Try.f9 false true false false) := by
  refine returnsInHanded_of_change_sized (C := Try.checked) ownBatchPlays started (by kernel_rfl) Try.func9
    (ChangeSpec.witness6 (enc := enc) (C := Try.checked) false ⟨#[], #[.int .i64 0, .slice none 0 0], []⟩ 64 (by kernel_rfl) (by kernel_rfl) (by kernel_rfl) (by kernel_rfl)) ?_
  intro W base args ds gs before hval0 hW hcnd hsz _
  have hval : ∀ (j : Nat) t v, Try.f9.params[j]? = some t → args[j]? = some v → Value.okWide Try.prog W .any base t v := hval0
  have hW' := hW
  obtain ⟨p, q, hA0, hV, rfl, hfz, hnd⟩ := hW
  have hA : DataW.TrodAll enc Try.prog W 0 (fun _ => true) true Try.f9.params.toList args.toList ds p := hA0
  rw [Try.params9] at hA hval
  rw [Try.params9] at hsz
  obtain ⟨v0, vs0, d0, ds0, p0, q0, hargs, rfl, rfl, h0, r0⟩ := trodAll_cons hA
  obtain ⟨v1, vs1, d1, ds1, p1, q1, rfl, rfl, rfl, h1, r1⟩ := trodAll_cons r0
  obtain ⟨rfl, rfl, rfl⟩ := trodAll_nil r1
  obtain rfl : args = #[v0, v1] := by cases args; simp_all
  obtain ⟨rfl, rfl⟩ := trodVars_none hV
  obtain ⟨a0, rfl, rfl, rfl, w0⟩ := open_int Try.underlying3 (hval 0 3 v0 rfl rfl) h0
  obtain ⟨a1, len1, c1, rfl⟩ := okWide_slice Try.underlying50 (hval 1 50 v1 rfl rfl)
  have k1 := h1
  have lt1 : ∀ x ∈ p1, x.block < W.heap.size := by obtain ⟨m, hm⟩ := k1; exact DataW.trod_lt m _ _ _ hm
  have wt1 : ∀ n ∈ d1.weights Try.prog 50, n ≤ 140737488355328 := fun n hn => by
    have := List.all_eq_true.1 hsz n (DataW.weights_mem_each (j := 1) rfl rfl n hn)
    have h1 : n ≤ reachBytes := by simpa using this
    exact Nat.le_trans h1 (by decide)
  obtain ⟨l1, rfl, b1, e1, g1, s1⟩ := calls_inS Try.underlying50 Try.underlying58 Try.underlying3 Try.underlying29 Try.underlying5 (by kernel_rfl) rfl rfl (by kernel_rfl) (by kernel_rfl) (by kernel_rfl) (by kernel_rfl) h1 wt1
  clear hA0 hval0
  refine (walkBatchPlays a0 a1 l1 c1 W w0 b1 e1 g1 s1).mono fun e W' ⟨he, bel⟩ => ?_
  subst he
  exact ⟨_, rfl, _, _, _, [], _, [], hW', trodAll_mk1 (shut_bool Try.underlying4 _), (trodAll_cons_mk (shut_int Try.underlying3 w0) (trodAll_cons_mk (Below.trod laidOutBatchPlays (by kernel_rfl) (of_decide_eq_true (by kernel_rfl)) k1 bel lt1) trodAll_mk0)), rfl, bel.frame _, fun h => by cases h⟩
theorem overBatchPlays : Rows.batchPlaysRow.holds Try.pinned (OpenSpec.ofChange Rows.batchPlaysSpec) :=
  OpenClaim.holds_of_wide 9 Try.f9 rfl rfl rfl rfl rfl rfl rfl ⟨rfl, rfl, rfl, rfl, rfl⟩ rfl rfl rfl rfl rfl (by kernel_rfl) Try.func9 (by kernel_rfl)
    (of_decide_eq_true (by kernel_rfl)) (by unfold Func.isWrapper; first | (rw [if_pos (by decide +kernel)]; kernel_rfl) | (rw [if_neg (by decide +kernel)]; exact ⟨rfl, rfl⟩))
    (fun os started H enc _ => liftedBatchPlays os started H enc)
theorem provedBatchPlays : Rows.BatchPlaysSaid := overBatchPlays
#print axioms provedBatchPlays
end Go.Proofs.Ytklelhfgbjpifaa
