/- The law JobjLooks: whatever the input, the call returns true, and the input reads as it did. There are no conditions. -/
import Derived.Test.YtjopikfkgjbcgaaDoorLaw
import Derived.Test.YtjopikfkgjbcgaaDoorStrs
import Derived.Test.YtjopikfkgjbcgaaDoorChecked
import Derived.Test.YtjopikfkgjbcgaaDoorKp
import Derived.Test.YtjopikfkgjbcgaaDoorLawJ
import Derived.Test.YtjopikfkgjbcgaaDoorTie
import Derived.Test.YtjopikfkgjbcgaaDoorCards
import Derived.LaidMore
import Derived.Lay
import Derived.SevenTiedAt
import Derived.Stop.Joined
namespace Go.Proofs.YtjopikfkgjbcgaaDoor
open Go.ChangeShapes Go.WideShapes Go.ChangeAt Go.RowKit
open Go.ChangeMaps (open_string shut_string)
set_option linter.unusedVariables false
theorem ownJobjLooks : ownKnob Tryd.prog.godebug = none := by kernel_rfl
theorem laidOutJobjLooks : laidOutB Tryd.prog = true := by kernel_rfl
theorem walkJobjLooks (a0 : Option Addr) (l0 : List JV) (c0 : Nat) (a1 : Int) (a2 : Int) (xs3 : List UInt8) (w : World) (h0 : Jvs w.heap a0 l0) (k0 : l0.length ≤ c0) (m0 : c0 ≤ maxLen) (z0 : InJ l0) (h1 : (Lit.int .i64 a1).wf = true) (h2 : (Lit.int .i64 a2).wf = true) (h3 : xs3.length ≤ maxLen) (hP : Plc w.heap) :
    Calls Tryd.prog 5 #[.slice a0 l0.length c0, .int .i64 a1, .int .i64 a2, .string (strOf xs3)] w fun e w' => e = .returned (.bool true) ∧ Below w.heap.size w w' :=
  (lawLooks_ch w.heap l0 a0 c0 a1 a2 xs3 h0 k0 (Nat.le_trans k0 m0) z0 hP w rfl).mono fun e w' ⟨v, he, hr, hv, hx⟩ => ⟨by rw [he, hv], below_of hr hx⟩
set_option maxRecDepth 100000 in
theorem liftedJobjLooks (os : Os) (started : os.Started) (H : Type) (enc : TypeId × Value → H) :
    ReturnsInHanded {} Tryd.checked os 5 .any (fun w args => (Rows.jobjLooksSpec.pre enc Tryd.prog Tryd.f5 Rows.jobjLooksRow.domain false w args ∧ laidMetH Tryd.prog Rows.jobjLooksRow.laid w) ∧ sizedMet enc Tryd.prog Tryd.f5 (OpenSpec.ofChange Rows.jobjLooksSpec) false w args) (Rows.jobjLooksSpec.post enc Tryd.prog Tryd.f5 false true false false) := by
  refine returnsInHanded_of_change_and (C := Tryd.checked) (X := fun w _ => laidMetH Tryd.prog Rows.jobjLooksRow.laid w) (fun _ _ _ hh h => h.of_heap hh) ownJobjLooks started (by kernel_rfl) Tryd.func5
    (ChangeSpec.witness_shaped (enc := enc) (C := Tryd.checked) (os := os) (X := fun w _ => laidMetH Tryd.prog Rows.jobjLooksRow.laid w) false (World.laidAll Tryd.prog os Rows.jobjLooksRow.laid) #[.slice none 0 0, .int .i64 0, .int .i64 0, .string ByteArray.empty] 64 (World.laidAll_os _ _ _)
      (World.shaped_of_ZipB (by kernel_rfl) (by kernel_rfl)) (by kernel_rfl) (by kernel_rfl) (by kernel_rfl)
      (by rw [MakeChecks.laidMetH_plain _ _ _ (by kernel_rfl)]; exact laidMet_laidAll _ (by kernel_rfl) (by kernel_rfl))) ?_
  intro W base args ds gs before hval0 hW hcnd hsz hL _
  have hval : ∀ (j : Nat) t v, Tryd.f5.params[j]? = some t → args[j]? = some v → Value.okWide Tryd.prog W .any base t v := hval0
  have hW' := hW
  obtain ⟨p, q, hA0, hV, rfl, hfz, hnd⟩ := hW
  have hA : DataW.TrodAll enc Tryd.prog W 0 (fun _ => true) true Tryd.f5.params.toList args.toList ds p := hA0
  rw [Tryd.params5] at hA hval
  rw [Tryd.params5] at hsz
  obtain ⟨v0, vs0, d0, ds0, p0, q0, hargs, rfl, rfl, h0, r0⟩ := trodAll_cons hA
  obtain ⟨v1, vs1, d1, ds1, p1, q1, rfl, rfl, rfl, h1, r1⟩ := trodAll_cons r0
  obtain ⟨v2, vs2, d2, ds2, p2, q2, rfl, rfl, rfl, h2, r2⟩ := trodAll_cons r1
  obtain ⟨v3, vs3, d3, ds3, p3, q3, rfl, rfl, rfl, h3, r3⟩ := trodAll_cons r2
  obtain ⟨rfl, rfl, rfl⟩ := trodAll_nil r3
  obtain rfl : args = #[v0, v1, v2, v3] := by cases args; simp_all
  obtain ⟨rfl, rfl⟩ := trodVars_none hV
  obtain ⟨a0, len0, c0, rfl⟩ := okWide_slice Tryd.underlying22 (hval 0 22 v0 rfl rfl)
  have k0 := h0
  have lt0 : ∀ x ∈ p0, x.block < W.heap.size := by obtain ⟨m, hm⟩ := k0; exact DataW.trod_lt m _ _ _ hm
  have wt0 : ∀ n ∈ d0.weights Tryd.prog 22, n ≤ 140737488355328 := fun n hn => by
    have := List.all_eq_true.1 hsz n (DataW.weights_mem_each (j := 0) rfl rfl n hn)
    have h1 : n ≤ reachBytes := by simpa using this
    exact Nat.le_trans h1 (by decide)
  obtain ⟨l0, rfl, b0, e0, g0, s0⟩ := values_inS Tryd.underlying22 Tryd.underlying37 (by kernel_rfl) rfl rfl rfl rfl (by kernel_rfl) (by kernel_rfl) (by kernel_rfl) (by kernel_rfl) Tryd.underlying3 Tryd.underlying9 Tryd.underlying9 Tryd.underlying3 h0 wt0
  obtain ⟨a1, rfl, rfl, rfl, w1⟩ := open_int Tryd.underlying3 (hval 1 3 v1 rfl rfl) h1
  obtain ⟨a2, rfl, rfl, rfl, w2⟩ := open_int Tryd.underlying3 (hval 2 3 v2 rfl rfl) h2
  obtain ⟨a3, rfl, rfl, rfl, w3⟩ := open_string Tryd.underlying9 (hval 3 9 v3 rfl rfl) h3
  obtain ⟨xs3, rfl⟩ : ∃ l, a3 = strOf l := ⟨_, (strOf_of a3).symm⟩
  clear hA0 hval0
  rw [MakeChecks.laidMetH_plain _ _ _ (by kernel_rfl)] at hL
  have hP : Plc W.heap := plc_of_laid hL (by repeat first | exact List.mem_cons_self .. | apply List.mem_cons_of_mem) (by repeat first | exact List.mem_cons_self .. | apply List.mem_cons_of_mem) (by repeat first | exact List.mem_cons_self .. | apply List.mem_cons_of_mem)
  refine (walkJobjLooks a0 l0 c0 a1 a2 xs3 W b0 e0 g0 s0 w1 w2 (by rw [← strOf_size]; exact w3) hP).mono fun e W' ⟨he, bel⟩ => ?_
  subst he
  exact ⟨_, rfl, _, _, _, [], _, [], hW', trodAll_mk1 (shut_bool Tryd.underlying4 _), (trodAll_cons_mk (Below.trod laidOutJobjLooks (by kernel_rfl) (of_decide_eq_true (by kernel_rfl)) k0 bel lt0) (trodAll_cons_mk (shut_int Tryd.underlying3 w1) (trodAll_cons_mk (shut_int Tryd.underlying3 w2) (trodAll_cons_mk (shut_string Tryd.underlying9 w3) trodAll_mk0)))), rfl, bel.frame _, fun h => by cases h⟩
theorem overJobjLooks : Rows.jobjLooksRow.holds Tryd.pinned (OpenSpec.ofChange Rows.jobjLooksSpec) :=
  OpenClaim.holds_of_wide 5 Tryd.f5 rfl rfl rfl rfl rfl rfl rfl ⟨rfl, rfl, rfl, rfl, rfl⟩ rfl rfl rfl rfl rfl (by kernel_rfl) Tryd.func5 (by kernel_rfl)
    (of_decide_eq_true (by kernel_rfl)) (by unfold Func.isWrapper; first | (rw [if_pos (by decide +kernel)]; kernel_rfl) | (rw [if_neg (by decide +kernel)]; exact ⟨rfl, rfl⟩))
    (fun os started H enc _ => liftedJobjLooks os started H enc)
theorem provedJobjLooks : Rows.JobjLooksCardSaid :=
  Claim7.holds_tied_plain_at .later [] [.data, .data, .data, .data, .pinned] true (true, "a7ec2c077fb089a779b2126c05a51a3e864c0c1fa116ce4e04905794e2b8067b") false overJobjLooks (fun _ h => by cases h) (by kernel_rfl) (fun _ h => by cases h) jobjLooks_row_tie rfl ⟨rfl, rfl⟩ (by kernel_rfl) rfl
    (fun f fn hf hfn => by
      obtain rfl : f = 5 := Option.some.inj ((show Tryd.prog.funcNamed "onionskin/onionskinlaw12.JobjLooks" = some 5 by kernel_rfl).symm.trans hf) |>.symm
      obtain rfl : fn = Tryd.f5 := (Option.some.inj (Tryd.func5.symm.trans hfn)).symm
      exact ⟨by kernel_rfl, fun j t ht => by
        rw [Tryd.params5] at ht
        have hm : t ∈ [22, 3, 9] := by have := Array.mem_of_getElem? ht; simp at this ⊢; omega
        have hall : ([22, 3, 9].all fun u => !Tryd.prog.wantsStandIn u) = true := by kernel_rfl
        exact (show Tryd.prog.wantsStandIn t = false by simpa using List.all_eq_true.1 hall t hm)⟩)
    (by kernel_rfl)
#print axioms provedJobjLooks
end Go.Proofs.YtjopikfkgjbcgaaDoor
