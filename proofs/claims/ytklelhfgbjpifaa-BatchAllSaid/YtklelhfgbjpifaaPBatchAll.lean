/- The law BatchAll: whatever the input, the call returns true, and the input reads as it did. There are no conditions. -/
import Derived.Test.YtklelhfgbjpifaaLaw
import Derived.Test.YtklelhfgbjpifaaStrs
import Derived.Test.YtklelhfgbjpifaaChecked
import Derived.Test.YtklelhfgbjpifaaBv
namespace Go.Proofs.Ytklelhfgbjpifaa
open Go.ChangeShapes Go.WideShapes Go.ChangeAt Go.RowKit
open Go.ChangeMaps (open_string shut_string)
set_option linter.unusedVariables false
theorem ownBatchAll : ownKnob Try.prog.godebug = none := by kernel_rfl
theorem laidOutBatchAll : laidOutB Try.prog = true := by kernel_rfl
theorem walkBatchAll (a0 : Int) (a1 : Option Addr) (l1 : List (Option Addr × Nat × List UInt8)) (c1 : Nat) (a2 : Option Addr) (l2 : List (Option Addr × Nat × List UInt8)) (c2 : Nat) (a3 : Bool) (w : World) (h0 : (Lit.int .i64 a0).wf = true) (h1 : Byts w.heap a1 l1) (k1 : l1.length ≤ c1) (m1 : c1 ≤ maxLen) (z1 : ∀ x ∈ l1, x.2.2.length ≤ 140737488355328) (h2 : Byts w.heap a2 l2) (k2 : l2.length ≤ c2) (m2 : c2 ≤ maxLen) (z2 : ∀ x ∈ l2, x.2.2.length ≤ 140737488355328) :
    Calls Try.prog 10 #[.int .i64 a0, .slice a1 l1.length c1, .slice a2 l2.length c2, .bool a3] w fun e w' => e = .returned (.bool true) ∧ Below w.heap.size w w' :=
  (lawAll_ch w.heap a0 l1 a1 c1 h1 (Nat.le_trans k1 m1) z1 l2 a2 c2 h2 (Nat.le_trans k2 m2) z2 a3 w rfl).mono fun e w' ⟨v, he, hr, hv, hx⟩ => ⟨by rw [he, hv], below_of hr hx⟩
set_option maxRecDepth 100000 in
theorem liftedBatchAll (os : Os) (started : os.Started) (H : Type) (enc : TypeId × Value → H) :
    ReturnsInHanded {} Try.checked os 10 .any (Rows.batchAllSpec.pre6 enc Try.prog Try.f10 Rows.batchAllRow.domain false) (Rows.batchAllSpec.post enc Try.prog Try.f10 false true false false) := by
  refine returnsInHanded_of_change_sized (C := Try.checked) ownBatchAll started (by kernel_rfl) Try.func10
    (ChangeSpec.witness6 (enc := enc) (C := Try.checked) false ⟨#[], #[.int .i64 0, .slice none 0 0, .slice none 0 0, .bool false], []⟩ 64 (by kernel_rfl) (by kernel_rfl) (by kernel_rfl) (by kernel_rfl)) ?_
  intro W base args ds gs before hval0 hW hcnd hsz _
  have hval : ∀ (j : Nat) t v, Try.f10.params[j]? = some t → args[j]? = some v → Value.okWide Try.prog W .any base t v := hval0
  have hW' := hW
  obtain ⟨p, q, hA0, hV, rfl, hfz, hnd⟩ := hW
  have hA : DataW.TrodAll enc Try.prog W 0 (fun _ => true) true Try.f10.params.toList args.toList ds p := hA0
  rw [Try.params10] at hA hval
  rw [Try.params10] at hsz
  obtain ⟨v0, vs0, d0, ds0, p0, q0, hargs, rfl, rfl, h0, r0⟩ := trodAll_cons hA
  obtain ⟨v1, vs1, d1, ds1, p1, q1, rfl, rfl, rfl, h1, r1⟩ := trodAll_cons r0
  obtain ⟨v2, vs2, d2, ds2, p2, q2, rfl, rfl, rfl, h2, r2⟩ := trodAll_cons r1
  obtain ⟨v3, vs3, d3, ds3, p3, q3, rfl, rfl, rfl, h3, r3⟩ := trodAll_cons r2
  obtain ⟨rfl, rfl, rfl⟩ := trodAll_nil r3
  obtain rfl : args = #[v0, v1, v2, v3] := by cases args; simp_all
  obtain ⟨rfl, rfl⟩ := trodVars_none hV
  obtain ⟨a0, rfl, rfl, rfl, w0⟩ := open_int Try.underlying3 (hval 0 3 v0 rfl rfl) h0
  obtain ⟨a1, len1, c1, rfl⟩ := okWide_slice Try.underlying22 (hval 1 22 v1 rfl rfl)
  have k1 := h1
  have lt1 : ∀ x ∈ p1, x.block < W.heap.size := by obtain ⟨m, hm⟩ := k1; exact DataW.trod_lt m _ _ _ hm
  have wt1 : ∀ n ∈ d1.weights Try.prog 22, n ≤ 140737488355328 := fun n hn => by
    have := List.all_eq_true.1 hsz n (DataW.weights_mem_each (j := 1) rfl rfl n hn)
    have h1 : n ≤ reachBytes := by simpa using this
    exact Nat.le_trans h1 (by decide)
  obtain ⟨l1, rfl, b1, e1, g1, s1⟩ := byts_inS Try.underlying22 Try.underlying29 Try.underlying5 (by kernel_rfl) (by kernel_rfl) (by kernel_rfl) h1 wt1
  obtain ⟨a2, len2, c2, rfl⟩ := okWide_slice Try.underlying22 (hval 2 22 v2 rfl rfl)
  have k2 := h2
  have lt2 : ∀ x ∈ p2, x.block < W.heap.size := by obtain ⟨m, hm⟩ := k2; exact DataW.trod_lt m _ _ _ hm
  have wt2 : ∀ n ∈ d2.weights Try.prog 22, n ≤ 140737488355328 := fun n hn => by
    have := List.all_eq_true.1 hsz n (DataW.weights_mem_each (j := 2) rfl rfl n hn)
    have h1 : n ≤ reachBytes := by simpa using this
    exact Nat.le_trans h1 (by decide)
  obtain ⟨l2, rfl, b2, e2, g2, s2⟩ := byts_inS Try.underlying22 Try.underlying29 Try.underlying5 (by kernel_rfl) (by kernel_rfl) (by kernel_rfl) h2 wt2
  obtain ⟨a3, rfl, rfl, rfl⟩ := open_bool Try.underlying4 (hval 3 4 v3 rfl rfl) h3
  clear hA0 hval0
  refine (walkBatchAll a0 a1 l1 c1 a2 l2 c2 a3 W w0 b1 e1 g1 s1 b2 e2 g2 s2).mono fun e W' ⟨he, bel⟩ => ?_
  subst he
  exact ⟨_, rfl, _, _, _, [], _, [], hW', trodAll_mk1 (shut_bool Try.underlying4 _), (trodAll_cons_mk (shut_int Try.underlying3 w0) (trodAll_cons_mk (Below.trod laidOutBatchAll (by kernel_rfl) (of_decide_eq_true (by kernel_rfl)) k1 bel lt1) (trodAll_cons_mk (Below.trod laidOutBatchAll (by kernel_rfl) (of_decide_eq_true (by kernel_rfl)) k2 bel lt2) (trodAll_cons_mk (shut_bool Try.underlying4 a3) trodAll_mk0)))), rfl, bel.frame _, fun h => by cases h⟩
theorem overBatchAll : Rows.batchAllRow.holds Try.pinned (OpenSpec.ofChange Rows.batchAllSpec) :=
  OpenClaim.holds_of_wide 10 Try.f10 rfl rfl rfl rfl rfl rfl rfl ⟨rfl, rfl, rfl, rfl, rfl⟩ rfl rfl rfl rfl rfl (by kernel_rfl) Try.func10 (by kernel_rfl)
    (of_decide_eq_true (by kernel_rfl)) (by unfold Func.isWrapper; first | (rw [if_pos (by decide +kernel)]; kernel_rfl) | (rw [if_neg (by decide +kernel)]; exact ⟨rfl, rfl⟩))
    (fun os started H enc _ => liftedBatchAll os started H enc)
theorem provedBatchAll : Rows.BatchAllSaid := overBatchAll
#print axioms provedBatchAll
end Go.Proofs.Ytklelhfgbjpifaa
