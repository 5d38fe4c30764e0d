/- The law PathsOrder: whatever the input, the call returns true, and the input reads as it did. There are no conditions. -/
import Derived.Test.YtfnippeemboljaaDoorLaw
import Derived.Test.YtfnippeemboljaaDoorStrs
import Derived.Test.YtfnippeemboljaaDoorChecked
import Derived.Test.YtfnippeemboljaaDoorWk
import Derived.Test.YtfnippeemboljaaDoorTie
import Derived.Test.YtfnippeemboljaaDoorCards
import Derived.LaidMore
import Derived.Lay
import Derived.SevenTiedAt
import Derived.Stop.Joined
namespace Go.Proofs.YtfnippeemboljaaDoor
open Go.ChangeShapes Go.WideShapes Go.ChangeAt Go.RowKit
open Go.ChangeMaps (open_string shut_string)
set_option linter.unusedVariables false
theorem ownPathsOrder : ownKnob Tryd.prog.godebug = none := by kernel_rfl
theorem laidOutPathsOrder : laidOutB Tryd.prog = true := by kernel_rfl
theorem walkPathsOrder (xs0 : List UInt8) (xs1 : List UInt8) (xs2 : List UInt8) (w : World) (h0 : xs0.length ≤ maxLen) (h1 : xs1.length ≤ maxLen) (h2 : xs2.length ≤ maxLen) :
    Calls Tryd.prog 6 #[.string (strOf xs0), .string (strOf xs1), .string (strOf xs2)] w fun e w' => e = .returned (.bool true) ∧ Below w.heap.size w w' :=
  (lawOrder_ch w.heap xs0 xs1 xs2 w rfl).mono fun e w' ⟨v, he, hr, hv, hx⟩ => ⟨by rw [he, hv], below_of hr hx⟩
set_option maxRecDepth 100000 in
theorem liftedPathsOrder (os : Os) (started : os.Started) (H : Type) (enc : TypeId × Value → H) :
    ReturnsInHanded {} Tryd.checked os 6 .any (fun w args => (Rows.pathsOrderSpec.pre enc Tryd.prog Tryd.f6 Rows.pathsOrderRow.domain false w args ∧ laidMetH Tryd.prog Rows.pathsOrderRow.laid w) ∧ sizedMet enc Tryd.prog Tryd.f6 (OpenSpec.ofChange Rows.pathsOrderSpec) false w args) (Rows.pathsOrderSpec.post enc Tryd.prog Tryd.f6 false true false false) := by
  refine returnsInHanded_of_change_and (C := Tryd.checked) (X := fun w _ => laidMetH Tryd.prog Rows.pathsOrderRow.laid w) (fun _ _ _ hh h => h.of_heap hh) ownPathsOrder started (by kernel_rfl) Tryd.func6
    (ChangeSpec.witness_shaped (enc := enc) (C := Tryd.checked) (os := os) (X := fun w _ => laidMetH Tryd.prog Rows.pathsOrderRow.laid w) false (World.laidAll Tryd.prog os Rows.pathsOrderRow.laid) #[.string ByteArray.empty, .string ByteArray.empty, .string ByteArray.empty] 64 (World.laidAll_os _ _ _)
      (World.shaped_of_ZipB (by kernel_rfl) (by kernel_rfl)) (by kernel_rfl) (by kernel_rfl) (by kernel_rfl)
      (by rw [MakeChecks.laidMetH_plain _ _ _ (by kernel_rfl)]; exact laidMet_laidAll _ (by kernel_rfl) (by kernel_rfl))) ?_
  intro W base args ds gs before hval0 hW hcnd _ hL _
  have hval : ∀ (j : Nat) t v, Tryd.f6.params[j]? = some t → args[j]? = some v → Value.okWide Tryd.prog W .any base t v := hval0
  have hW' := hW
  obtain ⟨p, q, hA0, hV, rfl, hfz, hnd⟩ := hW
  have hA : DataW.TrodAll enc Tryd.prog W 0 (fun _ => true) true Tryd.f6.params.toList args.toList ds p := hA0
  rw [Tryd.params6] at hA hval
  obtain ⟨v0, vs0, d0, ds0, p0, q0, hargs, rfl, rfl, h0, r0⟩ := trodAll_cons hA
  obtain ⟨v1, vs1, d1, ds1, p1, q1, rfl, rfl, rfl, h1, r1⟩ := trodAll_cons r0
  obtain ⟨v2, vs2, d2, ds2, p2, q2, rfl, rfl, rfl, h2, r2⟩ := trodAll_cons r1
  obtain ⟨rfl, rfl, rfl⟩ := trodAll_nil r2
  obtain rfl : args = #[v0, v1, v2] := by cases args; simp_all
  obtain ⟨rfl, rfl⟩ := trodVars_none hV
  obtain ⟨a0, rfl, rfl, rfl, w0⟩ := open_string Tryd.underlying9 (hval 0 9 v0 rfl rfl) h0
  obtain ⟨xs0, rfl⟩ : ∃ l, a0 = strOf l := ⟨_, (strOf_of a0).symm⟩
  obtain ⟨a1, rfl, rfl, rfl, w1⟩ := open_string Tryd.underlying9 (hval 1 9 v1 rfl rfl) h1
  obtain ⟨xs1, rfl⟩ : ∃ l, a1 = strOf l := ⟨_, (strOf_of a1).symm⟩
  obtain ⟨a2, rfl, rfl, rfl, w2⟩ := open_string Tryd.underlying9 (hval 2 9 v2 rfl rfl) h2
  obtain ⟨xs2, rfl⟩ : ∃ l, a2 = strOf l := ⟨_, (strOf_of a2).symm⟩
  clear hA0 hval0
  refine (walkPathsOrder xs0 xs1 xs2 W (by rw [← strOf_size]; exact w0) (by rw [← strOf_size]; exact w1) (by rw [← strOf_size]; exact w2)).mono fun e W' ⟨he, bel⟩ => ?_
  subst he
  exact ⟨_, rfl, _, _, _, [], _, [], hW', trodAll_mk1 (shut_bool Tryd.underlying4 _), (trodAll_cons_mk (shut_string Tryd.underlying9 w0) (trodAll_cons_mk (shut_string Tryd.underlying9 w1) (trodAll_cons_mk (shut_string Tryd.underlying9 w2) trodAll_mk0))), rfl, bel.frame _, fun h => by cases h⟩
theorem overPathsOrder : Rows.pathsOrderRow.holds Tryd.pinned (OpenSpec.ofChange Rows.pathsOrderSpec) :=
  OpenClaim.holds_of_wide 6 Tryd.f6 rfl rfl rfl rfl rfl rfl rfl ⟨rfl, rfl, rfl, rfl, rfl⟩ rfl rfl rfl rfl rfl (by kernel_rfl) Tryd.func6 (by kernel_rfl)
    (of_decide_eq_true (by kernel_rfl)) (by unfold Func.isWrapper; first | (rw [if_pos (by decide +kernel)]; kernel_rfl) | (rw [if_neg (by decide +kernel)]; exact ⟨rfl, rfl⟩))
    (fun os started H enc _ => liftedPathsOrder os started H enc)
theorem provedPathsOrder : Rows.PathsOrderCardSaid :=
  Claim7.holds_tied_plain_at .later [] [.data, .pinned] true (true, "e91465aeb485ec10968dd75cd449eafdbf68ca0eff287ec1d187c6b06777b151") false overPathsOrder (fun _ h => by cases h) (by kernel_rfl) (fun _ h => by cases h) pathsOrder_row_tie rfl ⟨rfl, rfl⟩ (by kernel_rfl) rfl
    (fun f fn hf hfn => by
      obtain rfl : f = 6 := Option.some.inj ((show Tryd.prog.funcNamed "onionskin/onionskinlaw15.PathsOrder" = some 6 by kernel_rfl).symm.trans hf) |>.symm
      obtain rfl : fn = Tryd.f6 := (Option.some.inj (Tryd.func6.symm.trans hfn)).symm
      exact ⟨by kernel_rfl, fun j t ht => by
        rw [Tryd.params6] at ht
        have hm : t ∈ [9] := by have := Array.mem_of_getElem? ht; simp at this ⊢; omega
        have hall : ([9].all fun u => !Tryd.prog.wantsStandIn u) = true := by kernel_rfl
        exact (show Tryd.prog.wantsStandIn t = false by simpa using List.all_eq_true.1 hall t hm)⟩)
    (by kernel_rfl)
#print axioms provedPathsOrder
end Go.Proofs.YtfnippeemboljaaDoor
