/- The law HeaderBack: whatever the input, the call returns true, and the input reads as it did. There are no conditions. -/
import Derived.Test.YtfogkggkjmkdiaaDoorLaw
import Derived.Test.YtfogkggkjmkdiaaDoorStrs
import Derived.Test.YtfogkggkjmkdiaaDoorChecked
import Derived.Test.YtfogkggkjmkdiaaDoorMb
import Derived.Test.YtfogkggkjmkdiaaDoorTie
import Derived.Test.YtfogkggkjmkdiaaDoorCards
import Derived.LaidMore
import Derived.Lay
import Derived.SevenTiedAt
import Derived.Stop.Joined
namespace Go.Proofs.YtfogkggkjmkdiaaDoor
open Go.ChangeShapes Go.WideShapes Go.ChangeAt Go.RowKit
open Go.ChangeMaps (open_string shut_string)
set_option linter.unusedVariables false
theorem ownHeaderBack : ownKnob Tryd.prog.godebug = none := by kernel_rfl
theorem laidOutHeaderBack : laidOutB Tryd.prog = true := by kernel_rfl
theorem walkHeaderBack (x0 : Hd) (w : World) (h0 : x0.name.length ≤ maxLen) (k0 : x0.link.length ≤ maxLen) (hP : Plc w.heap) :
    Calls Tryd.prog 10 #[.agg x0.cells.toArray] w fun e w' => e = .returned (.bool true) ∧ Below w.heap.size w w' :=
  (lawBack6_ch w.heap x0 hP h0 k0 w rfl).mono fun e w' ⟨v, he, hr, hv, hx⟩ => ⟨by rw [he, hv], below_of hr hx⟩
set_option maxRecDepth 100000 in
theorem liftedHeaderBack (os : Os) (started : os.Started) (H : Type) (enc : TypeId × Value → H) :
    ReturnsInHanded {} Tryd.checked os 10 .any (fun w args => (Rows.headerBackSpec.pre enc Tryd.prog Tryd.f10 Rows.headerBackRow.domain false w args ∧ laidMetH Tryd.prog Rows.headerBackRow.laid w) ∧ sizedMet enc Tryd.prog Tryd.f10 (OpenSpec.ofChange Rows.headerBackSpec) false w args) (Rows.headerBackSpec.post enc Tryd.prog Tryd.f10 false true false false) := by
  refine returnsInHanded_of_change_and (C := Tryd.checked) (X := fun w _ => laidMetH Tryd.prog Rows.headerBackRow.laid w) (fun _ _ _ hh h => h.of_heap hh) ownHeaderBack started (by kernel_rfl) Tryd.func10
    (ChangeSpec.witness_shaped (enc := enc) (C := Tryd.checked) (os := os) (X := fun w _ => laidMetH Tryd.prog Rows.headerBackRow.laid w) false (World.laidAll Tryd.prog os Rows.headerBackRow.laid) #[.agg Hd.zero.cells.toArray] 64 (World.laidAll_os _ _ _)
      (World.shaped_of_ZipB (by kernel_rfl) (by kernel_rfl)) (by kernel_rfl) (by kernel_rfl) (by kernel_rfl)
      (by rw [MakeChecks.laidMetH_plain _ _ _ (by kernel_rfl)]; exact laidMet_laidAll _ (by kernel_rfl) (by kernel_rfl))) ?_
  intro W base args ds gs before hval0 hW hcnd _ hL _
  have hval : ∀ (j : Nat) t v, Tryd.f10.params[j]? = some t → args[j]? = some v → Value.okWide Tryd.prog W .any base t v := hval0
  have hW' := hW
  obtain ⟨p, q, hA0, hV, rfl, hfz, hnd⟩ := hW
  have hA : DataW.TrodAll enc Tryd.prog W 0 (fun _ => true) true Tryd.f10.params.toList args.toList ds p := hA0
  rw [Tryd.params10] at hA hval
  obtain ⟨v0, vs0, d0, ds0, p0, q0, hargs, rfl, rfl, h0, r0⟩ := trodAll_cons hA
  obtain ⟨rfl, rfl, rfl⟩ := trodAll_nil r0
  obtain rfl : args = #[v0] := by cases args; simp_all
  obtain ⟨rfl, rfl⟩ := trodVars_none hV
  have k0 := h0
  have lt0 : ∀ x ∈ p0, x.block < W.heap.size := by obtain ⟨m, hm⟩ := k0; exact DataW.trod_lt m _ _ _ hm
  obtain ⟨x0, rfl, b0, e0⟩ := hd_in (hval 0 36 v0 rfl rfl) h0
  clear hA0 hval0
  rw [MakeChecks.laidMetH_plain _ _ _ (by kernel_rfl)] at hL
  have hP : Plc W.heap := plc_of_laid hL (by first | exact List.mem_cons_self .. | exact List.mem_cons_of_mem _ (List.mem_cons_self ..) | exact List.mem_cons_of_mem _ (List.mem_cons_of_mem _ (List.mem_cons_self ..)))
  refine (walkHeaderBack x0 W b0 e0 hP).mono fun e W' ⟨he, bel⟩ => ?_
  subst he
  exact ⟨_, rfl, _, _, _, [], _, [], hW', trodAll_mk1 (shut_bool Tryd.underlying4 _), (trodAll_cons_mk (Below.trod laidOutHeaderBack (by kernel_rfl) (of_decide_eq_true (by kernel_rfl)) k0 bel lt0) trodAll_mk0), rfl, bel.frame _, fun h => by cases h⟩
theorem overHeaderBack : Rows.headerBackRow.holds Tryd.pinned (OpenSpec.ofChange Rows.headerBackSpec) :=
  OpenClaim.holds_of_wide 10 Tryd.f10 rfl rfl rfl rfl rfl rfl rfl ⟨rfl, rfl, rfl, rfl, rfl⟩ rfl rfl rfl rfl rfl (by kernel_rfl) Tryd.func10 (by kernel_rfl)
    (of_decide_eq_true (by kernel_rfl)) (by unfold Func.isWrapper; first | (rw [if_pos (by decide +kernel)]; kernel_rfl) | (rw [if_neg (by decide +kernel)]; exact ⟨rfl, rfl⟩))
    (fun os started H enc _ => liftedHeaderBack os started H enc)
theorem provedHeaderBack : Rows.HeaderBackCardSaid :=
  Claim7.holds_tied_plain_at .later [] [.data, .data, .pinned] true (true, "bcfc387c8ce74af20902e6ae951e17b7a753cda9ead938dff39545cb2f153bc1") false overHeaderBack (fun _ h => by cases h) (by kernel_rfl) (fun _ h => by cases h) headerBack_row_tie rfl ⟨rfl, rfl⟩ (by kernel_rfl) rfl
    (fun f fn hf hfn => by
      obtain rfl : f = 10 := Option.some.inj ((show Tryd.prog.funcNamed "onionskin/onionskinlaw06.HeaderBack" = some 10 by kernel_rfl).symm.trans hf) |>.symm
      obtain rfl : fn = Tryd.f10 := (Option.some.inj (Tryd.func10.symm.trans hfn)).symm
      exact ⟨by kernel_rfl, fun j t ht => by
        rw [Tryd.params10] at ht
        have hm : t ∈ [36] := by have := Array.mem_of_getElem? ht; simp at this ⊢; omega
        have hall : ([36].all fun u => !Tryd.prog.wantsStandIn u) = true := by kernel_rfl
        exact (show Tryd.prog.wantsStandIn t = false by simpa using List.all_eq_true.1 hall t hm)⟩)
    (by kernel_rfl)
#print axioms provedHeaderBack
end Go.Proofs.YtfogkggkjmkdiaaDoor
