/- The law JobjItems: whatever the input, the call returns true, and the input reads as it did. There are no conditions. -/
import Derived.Test.YtjopikfkgjbcgaaDoorLaw
import Derived.Test.YtjopikfkgjbcgaaDoorStrs
import Derived.Test.YtjopikfkgjbcgaaDoorChecked
import Derived.Test.YtjopikfkgjbcgaaDoorIt
import Derived.Test.YtjopikfkgjbcgaaDoorLawJ
import Derived.Test.YtjopikfkgjbcgaaDoorLawK
import Derived.Test.YtjopikfkgjbcgaaDoorTie
import Derived.Test.YtjopikfkgjbcgaaDoorCards
import Derived.LaidMore
import Derived.Lay
import Derived.SevenTiedAt
import Derived.Stop.Joined
namespace Go.Proofs.YtjopikfkgjbcgaaDoor
open Go.ChangeShapes Go.WideShapes Go.ChangeAt Go.RowKit
open Go.ChangeMaps (open_string shut_string)
set_option linter.unusedVariables false
theorem ownJobjItems : ownKnob Tryd.prog.godebug = none := by kernel_rfl
theorem laidOutJobjItems : laidOutB Tryd.prog = true := by kernel_rfl
theorem walkJobjItems (a0 : Option Addr) (l0 : List RowJ) (c0 : Nat) (a1 : Int) (w : World) (h0 : Jvss w.heap a0 l0) (k0 : l0.length ≤ c0) (m0 : c0 ≤ maxLen) (z0 : ∀ x ∈ l0, x.2.1 ≤ maxLen ∧ InJ x.2.2) (h1 : (Lit.int .i64 a1).wf = true) (hP : Plc w.heap) :
    Calls Tryd.prog 4 #[.slice a0 l0.length c0, .int .i64 a1] w fun e w' => e = .returned (.bool true) ∧ Below w.heap.size w w' :=
  (lawItems_ch w.heap l0 a0 c0 a1 h0 k0 (Nat.le_trans k0 m0) z0 hP w rfl).mono fun e w' ⟨v, he, hr, hv, hx⟩ => ⟨by rw [he, hv], below_of hr hx⟩
set_option maxRecDepth 100000 in
theorem liftedJobjItems (os : Os) (started : os.Started) (H : Type) (enc : TypeId × Value → H) :
    ReturnsInHanded {} Tryd.checked os 4 .any (fun w args => (Rows.jobjItemsSpec.pre enc Tryd.prog Tryd.f4 Rows.jobjItemsRow.domain false w args ∧ laidMetH Tryd.prog Rows.jobjItemsRow.laid w) ∧ sizedMet enc Tryd.prog Tryd.f4 (OpenSpec.ofChange Rows.jobjItemsSpec) false w args) (Rows.jobjItemsSpec.post enc Tryd.prog Tryd.f4 false true false false) := by
  refine returnsInHanded_of_change_and (C := Tryd.checked) (X := fun w _ => laidMetH Tryd.prog Rows.jobjItemsRow.laid w) (fun _ _ _ hh h => h.of_heap hh) ownJobjItems started (by kernel_rfl) Tryd.func4
    (ChangeSpec.witness_shaped (enc := enc) (C := Tryd.checked) (os := os) (X := fun w _ => laidMetH Tryd.prog Rows.jobjItemsRow.laid w) false (World.laidAll Tryd.prog os Rows.jobjItemsRow.laid) #[.slice none 0 0, .int .i64 0] 64 (World.laidAll_os _ _ _)
      (World.shaped_of_ZipB (by kernel_rfl) (by kernel_rfl)) (by kernel_rfl) (by kernel_rfl) (by kernel_rfl)
      (by rw [MakeChecks.laidMetH_plain _ _ _ (by kernel_rfl)]; exact laidMet_laidAll _ (by kernel_rfl) (by kernel_rfl))) ?_
  intro W base args ds gs before hval0 hW hcnd hsz hL _
  have hval : ∀ (j : Nat) t v, Tryd.f4.params[j]? = some t → args[j]? = some v → Value.okWide Tryd.prog W .any base t v := hval0
  have hW' := hW
  obtain ⟨p, q, hA0, hV, rfl, hfz, hnd⟩ := hW
  have hA : DataW.TrodAll enc Tryd.prog W 0 (fun _ => true) true Tryd.f4.params.toList args.toList ds p := hA0
  rw [Tryd.params4] at hA hval
  rw [Tryd.params4] at hsz
  obtain ⟨v0, vs0, d0, ds0, p0, q0, hargs, rfl, rfl, h0, r0⟩ := trodAll_cons hA
  obtain ⟨v1, vs1, d1, ds1, p1, q1, rfl, rfl, rfl, h1, r1⟩ := trodAll_cons r0
  obtain ⟨rfl, rfl, rfl⟩ := trodAll_nil r1
  obtain rfl : args = #[v0, v1] := by cases args; simp_all
  obtain ⟨rfl, rfl⟩ := trodVars_none hV
  obtain ⟨a0, len0, c0, rfl⟩ := okWide_slice Tryd.underlying31 (hval 0 31 v0 rfl rfl)
  have k0 := h0
  have lt0 : ∀ x ∈ p0, x.block < W.heap.size := by obtain ⟨m, hm⟩ := k0; exact DataW.trod_lt m _ _ _ hm
  have wt0 : ∀ n ∈ d0.weights Tryd.prog 31, n ≤ 140737488355328 := fun n hn => by
    have := List.all_eq_true.1 hsz n (DataW.weights_mem_each (j := 0) rfl rfl n hn)
    have h1 : n ≤ reachBytes := by simpa using this
    exact Nat.le_trans h1 (by decide)
  obtain ⟨l0, rfl, b0, e0, g0, s0⟩ := rows_inS Tryd.underlying31 Tryd.underlying22 Tryd.underlying37 (by kernel_rfl) (by kernel_rfl) rfl rfl rfl rfl (by kernel_rfl) (by kernel_rfl) (by kernel_rfl) (by kernel_rfl) Tryd.underlying3 Tryd.underlying9 Tryd.underlying9 Tryd.underlying3 h0 wt0
  obtain ⟨a1, rfl, rfl, rfl, w1⟩ := open_int Tryd.underlying3 (hval 1 3 v1 rfl rfl) h1
  clear hA0 hval0
  rw [MakeChecks.laidMetH_plain _ _ _ (by kernel_rfl)] at hL
  have hP : Plc W.heap := plc_of_laid hL (by repeat first | exact List.mem_cons_self .. | apply List.mem_cons_of_mem) (by repeat first | exact List.mem_cons_self .. | apply List.mem_cons_of_mem) (by repeat first | exact List.mem_cons_self .. | apply List.mem_cons_of_mem)
  refine (walkJobjItems a0 l0 c0 a1 W b0 e0 g0 s0 w1 hP).mono fun e W' ⟨he, bel⟩ => ?_
  subst he
  exact ⟨_, rfl, _, _, _, [], _, [], hW', trodAll_mk1 (shut_bool Tryd.underlying4 _), (trodAll_cons_mk (Below.trod laidOutJobjItems (by kernel_rfl) (of_decide_eq_true (by kernel_rfl)) k0 bel lt0) (trodAll_cons_mk (shut_int Tryd.underlying3 w1) trodAll_mk0)), rfl, bel.frame _, fun h => by cases h⟩
theorem overJobjItems : Rows.jobjItemsRow.holds Tryd.pinned (OpenSpec.ofChange Rows.jobjItemsSpec) :=
  OpenClaim.holds_of_wide 4 Tryd.f4 rfl rfl rfl rfl rfl rfl rfl ⟨rfl, rfl, rfl, rfl, rfl⟩ rfl rfl rfl rfl rfl (by kernel_rfl) Tryd.func4 (by kernel_rfl)
    (of_decide_eq_true (by kernel_rfl)) (by unfold Func.isWrapper; first | (rw [if_pos (by decide +kernel)]; kernel_rfl) | (rw [if_neg (by decide +kernel)]; exact ⟨rfl, rfl⟩))
    (fun os started H enc _ => liftedJobjItems os started H enc)
theorem provedJobjItems : Rows.JobjItemsCardSaid :=
  Claim7.holds_tied_plain_at .later [] [.data, .data, .data, .data, .pinned] true (true, "a7ec2c077fb089a779b2126c05a51a3e864c0c1fa116ce4e04905794e2b8067b") false overJobjItems (fun _ h => by cases h) (by kernel_rfl) (fun _ h => by cases h) jobjItems_row_tie rfl ⟨rfl, rfl⟩ (by kernel_rfl) rfl
    (fun f fn hf hfn => by
      obtain rfl : f = 4 := Option.some.inj ((show Tryd.prog.funcNamed "onionskin/onionskinlaw12.JobjItems" = some 4 by kernel_rfl).symm.trans hf) |>.symm
      obtain rfl : fn = Tryd.f4 := (Option.some.inj (Tryd.func4.symm.trans hfn)).symm
      exact ⟨by kernel_rfl, fun j t ht => by
        rw [Tryd.params4] at ht
        have hm : t ∈ [31, 3] := by have := Array.mem_of_getElem? ht; simp at this ⊢; first | omega | (rcases this with h | h | h | h <;> simp [h]) | (rcases this with h | h | h <;> simp [h]) | (rcases this with h | h <;> simp [h])
        have hall : ([31, 3].all fun u => !Tryd.prog.wantsStandIn u) = true := by kernel_rfl
        exact (show Tryd.prog.wantsStandIn t = false by simpa using List.all_eq_true.1 hall t hm)⟩)
    (by kernel_rfl)
#print axioms provedJobjItems
end Go.Proofs.YtjopikfkgjbcgaaDoor
