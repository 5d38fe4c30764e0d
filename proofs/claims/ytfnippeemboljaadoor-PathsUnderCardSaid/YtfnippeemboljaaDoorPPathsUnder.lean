/- The law PathsUnder: whatever the input, the call returns true, and the input reads as it did. There are no conditions. -/
import Derived.Test.YtfnippeemboljaaDoorLaw
import Derived.Test.YtfnippeemboljaaDoorStrs
import Derived.Test.YtfnippeemboljaaDoorChecked
import Derived.Test.YtfnippeemboljaaDoorWl
import Derived.Test.YtfnippeemboljaaDoorTie
import Derived.Test.YtfnippeemboljaaDoorCards
import Derived.LaidMore
import Derived.Lay
import Derived.SevenTiedAt
import Derived.Stop.Joined
namespace Go.Proofs.YtfnippeemboljaaDoor
open Go.ChangeShapes Go.WideShapes Go.ChangeAt Go.RowKit
open Go.ChangeMaps (open_string shut_string)
set_option linter.unusedVariables false
theorem ownPathsUnder : ownKnob Tryd.prog.godebug = none := by kernel_rfl
theorem laidOutPathsUnder : laidOutB Tryd.prog = true := by kernel_rfl
theorem walkPathsUnder (xs0 : List UInt8) (xs1 : List UInt8) (w : World) (h0 : xs0.length ≤ maxLen) (h1 : xs1.length ≤ maxLen) :
    Calls Tryd.prog 7 #[.string (strOf xs0), .string (strOf xs1)] w fun e w' => e = .returned (.bool true) ∧ Below w.heap.size w w' :=
  (lawUnder_ch w.heap xs0 xs1 w rfl).mono fun e w' ⟨v, he, hr, hv, hx⟩ => ⟨by rw [he, hv], below_of hr hx⟩
set_option maxRecDepth 100000 in
theorem liftedPathsUnder (os : Os) (started : os.Started) (H : Type) (enc : TypeId × Value → H) :
    ReturnsInHanded {} Tryd.checked os 7 .any (fun w args => (Rows.pathsUnderSpec.pre enc Tryd.prog Tryd.f7 Rows.pathsUnderRow.domain false w args ∧ laidMetH Tryd.prog Rows.pathsUnderRow.laid w) ∧ sizedMet enc Tryd.prog Tryd.f7 (OpenSpec.ofChange Rows.pathsUnderSpec) false w args) (Rows.pathsUnderSpec.post enc Tryd.prog Tryd.f7 false true false false) := by
  refine returnsInHanded_of_change_and (C := Tryd.checked) (X := fun w _ => laidMetH Tryd.prog Rows.pathsUnderRow.laid w) (fun _ _ _ hh h => h.of_heap hh) ownPathsUnder started (by kernel_rfl) Tryd.func7
    (ChangeSpec.witness_shaped (enc := enc) (C := Tryd.checked) (os := os) (X := fun w _ => laidMetH Tryd.prog Rows.pathsUnderRow.laid w) false (World.laidAll Tryd.prog os Rows.pathsUnderRow.laid) #[.string ByteArray.empty, .string ByteArray.empty] 64 (World.laidAll_os _ _ _)
      (World.shaped_of_ZipB (by kernel_rfl) (by kernel_rfl)) (by kernel_rfl) (by kernel_rfl) (by kernel_rfl)
      (by rw [MakeChecks.laidMetH_plain _ _ _ (by kernel_rfl)]; exact laidMet_laidAll _ (by kernel_rfl) (by kernel_rfl))) ?_
  intro W base args ds gs before hval0 hW hcnd _ hL _
  have hval : ∀ (j : Nat) t v, Tryd.f7.params[j]? = some t → args[j]? = some v → Value.okWide Tryd.prog W .any base t v := hval0
  have hW' := hW
  obtain ⟨p, q, hA0, hV, rfl, hfz, hnd⟩ := hW
  have hA : DataW.TrodAll enc Tryd.prog W 0 (fun _ => true) true Tryd.f7.params.toList args.toList ds p := hA0
  rw [Tryd.params7] at hA hval
  obtain ⟨v0, vs0, d0, ds0, p0, q0, hargs, rfl, rfl, h0, r0⟩ := trodAll_cons hA
  obtain ⟨v1, vs1, d1, ds1, p1, q1, rfl, rfl, rfl, h1, r1⟩ := trodAll_cons r0
  obtain ⟨rfl, rfl, rfl⟩ := trodAll_nil r1
  obtain rfl : args = #[v0, v1] := by cases args; simp_all
  obtain ⟨rfl, rfl⟩ := trodVars_none hV
  obtain ⟨a0, rfl, rfl, rfl, w0⟩ := open_string Tryd.underlying9 (hval 0 9 v0 rfl rfl) h0
  obtain ⟨xs0, rfl⟩ : ∃ l, a0 = strOf l := ⟨_, (strOf_of a0).symm⟩
  obtain ⟨a1, rfl, rfl, rfl, w1⟩ := open_string Tryd.underlying9 (hval 1 9 v1 rfl rfl) h1
  obtain ⟨xs1, rfl⟩ : ∃ l, a1 = strOf l := ⟨_, (strOf_of a1).symm⟩
  clear hA0 hval0
  refine (walkPathsUnder xs0 xs1 W (by rw [← strOf_size]; exact w0) (by rw [← strOf_size]; exact w1)).mono fun e W' ⟨he, bel⟩ => ?_
  subst he
  exact ⟨_, rfl, _, _, _, [], _, [], hW', trodAll_mk1 (shut_bool Tryd.underlying4 _), (trodAll_cons_mk (shut_string Tryd.underlying9 w0) (trodAll_cons_mk (shut_string Tryd.underlying9 w1) trodAll_mk0)), rfl, bel.frame _, fun h => by cases h⟩
theorem overPathsUnder : Rows.pathsUnderRow.holds Tryd.pinned (OpenSpec.ofChange Rows.pathsUnderSpec) :=
  OpenClaim.holds_of_wide 7 Tryd.f7 rfl rfl rfl rfl rfl rfl rfl ⟨rfl, rfl, rfl, rfl, rfl⟩ rfl rfl rfl rfl rfl (by kernel_rfl) Tryd.func7 (by kernel_rfl)
    (of_decide_eq_true (by kernel_rfl)) (by unfold Func.isWrapper; first | (rw [if_pos (by decide +kernel)]; kernel_rfl) | (rw [if_neg (by decide +kernel)]; exact ⟨rfl, rfl⟩))
    (fun os started H enc _ => liftedPathsUnder os started H enc)
theorem provedPathsUnder : Rows.PathsUnderCardSaid :=
  Claim7.holds_tied_plain_at .later [] [.data, .pinned] true (true, "e91465aeb485ec10968dd75cd449eafdbf68ca0eff287ec1d187c6b06777b151") false overPathsUnder (fun _ h => by cases h) (by kernel_rfl) (fun _ h => by cases h) pathsUnder_row_tie rfl ⟨rfl, rfl⟩ (by kernel_rfl) rfl
    (fun f fn hf hfn => by
      obtain rfl : f = 7 := Option.some.inj ((show Tryd.prog.funcNamed "onionskin/onionskinlaw15.PathsUnder" = some 7 by kernel_rfl).symm.trans hf) |>.symm
      obtain rfl : fn = Tryd.f7 := (Option.some.inj (Tryd.func7.symm.trans hfn)).symm
      exact ⟨by kernel_rfl, fun j t ht => by
        rw [Tryd.params7] at ht
        have hm : t ∈ [9] := by have := Array.mem_of_getElem? ht; simp at this ⊢; omega
        have hall : ([9].all fun u => !Tryd.prog.wantsStandIn u) = true := by kernel_rfl
        exact (show Tryd.prog.wantsStandIn t = false by simpa using List.all_eq_true.1 hall t hm)⟩)
    (by kernel_rfl)
#print axioms provedPathsUnder
end Go.Proofs.YtfnippeemboljaaDoor
