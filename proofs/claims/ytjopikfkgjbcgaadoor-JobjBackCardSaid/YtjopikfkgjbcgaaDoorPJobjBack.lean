/- The law JobjBack: whatever the input, the call returns true, and the input reads as it did. There are no conditions. -/
import Derived.Test.YtjopikfkgjbcgaaDoorLaw
import Derived.Test.YtjopikfkgjbcgaaDoorStrs
import Derived.Test.YtjopikfkgjbcgaaDoorChecked
import Derived.Test.YtjopikfkgjbcgaaDoorKd
import Derived.Test.YtjopikfkgjbcgaaDoorLawJ
import Derived.Test.YtjopikfkgjbcgaaDoorTie
import Derived.Test.YtjopikfkgjbcgaaDoorCards
import Derived.LaidMore
import Derived.Lay
import Derived.SevenTiedAt
import Derived.Stop.Joined
namespace Go.Proofs.YtjopikfkgjbcgaaDoor
open Go.ChangeShapes Go.WideShapes Go.ChangeAt Go.RowKit
open Go.ChangeMaps (open_string shut_string)
set_option linter.unusedVariables false
theorem ownJobjBack : ownKnob Tryd.prog.godebug = none := by kernel_rfl
theorem laidOutJobjBack : laidOutB Tryd.prog = true := by kernel_rfl
theorem walkJobjBack (a0 : Option Addr) (l0 : List JV) (c0 : Nat) (xs1 : List UInt8) (a2 : Option Addr) (l2 : List JV) (c2 : Nat) (xs3 : List UInt8) (w : World) (h0 : Jvs w.heap a0 l0) (k0 : l0.length ≤ c0) (m0 : c0 ≤ maxLen) (z0 : InJ l0) (h1 : xs1.length ≤ maxLen) (h2 : Jvs w.heap a2 l2) (k2 : l2.length ≤ c2) (m2 : c2 ≤ maxLen) (z2 : InJ l2) (h3 : xs3.length ≤ maxLen) (hP : Plc w.heap) :
    Calls Tryd.prog 3 #[.slice a0 l0.length c0, .string (strOf xs1), .slice a2 l2.length c2, .string (strOf xs3)] w fun e w' => e = .returned (.bool true) ∧ Below w.heap.size w w' :=
  (lawBack_ch w.heap l0 l2 a0 a2 c0 c2 xs1 xs3 h0 k0 (Nat.le_trans k0 m0) z0 h2 (Nat.le_trans k2 m2) z2 hP w rfl).mono fun e w' ⟨v, he, hr, hv, hx⟩ => ⟨by rw [he, hv], below_of hr hx⟩
set_option maxRecDepth 100000 in
theorem liftedJobjBack (os : Os) (started : os.Started) (H : Type) (enc : TypeId × Value → H) :
    ReturnsInHanded {} Tryd.checked os 3 .any (fun w args => (Rows.jobjBackSpec.pre enc Tryd.prog Tryd.f3 Rows.jobjBackRow.domain false w args ∧ laidMetH Tryd.prog Rows.jobjBackRow.laid w) ∧ sizedMet enc Tryd.prog Tryd.f3 (OpenSpec.ofChange Rows.jobjBackSpec) false w args) (Rows.jobjBackSpec.post enc Tryd.prog Tryd.f3 false true false false) := by
  refine returnsInHanded_of_change_and (C := Tryd.checked) (X := fun w _ => laidMetH Tryd.prog Rows.jobjBackRow.laid w) (fun _ _ _ hh h => h.of_heap hh) ownJobjBack started (by kernel_rfl) Tryd.func3
    (ChangeSpec.witness_shaped (enc := enc) (C := Tryd.checked) (os := os) (X := fun w _ => laidMetH Tryd.prog Rows.jobjBackRow.laid w) false (World.laidAll Tryd.prog os Rows.jobjBackRow.laid) #[.slice none 0 0, .string ByteArray.empty, .slice none 0 0, .string ByteArray.empty] 64 (World.laidAll_os _ _ _)
      (World.shaped_of_ZipB (by kernel_rfl) (by kernel_rfl)) (by kernel_rfl) (by kernel_rfl) (by kernel_rfl)
      (by rw [MakeChecks.laidMetH_plain _ _ _ (by kernel_rfl)]; exact laidMet_laidAll _ (by kernel_rfl) (by kernel_rfl))) ?_
  intro W base args ds gs before hval0 hW hcnd hsz hL _
  have hval : ∀ (j : Nat) t v, Tryd.f3.params[j]? = some t → args[j]? = some v → Value.okWide Tryd.prog W .any base t v := hval0
  have hW' := hW
  obtain ⟨p, q, hA0, hV, rfl, hfz, hnd⟩ := hW
  have hA : DataW.TrodAll enc Tryd.prog W 0 (fun _ => true) true Tryd.f3.params.toList args.toList ds p := hA0
  rw [Tryd.params3] at hA hval
  rw [Tryd.params3] at hsz
  obtain ⟨v0, vs0, d0, ds0, p0, q0, hargs, rfl, rfl, h0, r0⟩ := trodAll_cons hA
  obtain ⟨v1, vs1, d1, ds1, p1, q1, rfl, rfl, rfl, h1, r1⟩ := trodAll_cons r0
  obtain ⟨v2, vs2, d2, ds2, p2, q2, rfl, rfl, rfl, h2, r2⟩ := trodAll_cons r1
  obtain ⟨v3, vs3, d3, ds3, p3, q3, rfl, rfl, rfl, h3, r3⟩ := trodAll_cons r2
  obtain ⟨rfl, rfl, rfl⟩ := trodAll_nil r3
  obtain rfl : args = #[v0, v1, v2, v3] := by cases args; simp_all
  obtain ⟨rfl, rfl⟩ := trodVars_none hV
  obtain ⟨a0, len0, c0, rfl⟩ := okWide_slice Tryd.underlying22 (hval 0 22 v0 rfl rfl)
  have k0 := h0
  have lt0 : ∀ x ∈ p0, x.block < W.heap.size := by obtain ⟨m, hm⟩ := k0; exact DataW.trod_lt m _ _ _ hm
  have wt0 : ∀ n ∈ d0.weights Tryd.prog 22, n ≤ 140737488355328 := fun n hn => by
    have := List.all_eq_true.1 hsz n (DataW.weights_mem_each (j := 0) rfl rfl n hn)
    have h1 : n ≤ reachBytes := by simpa using this
    exact Nat.le_trans h1 (by decide)
  obtain ⟨l0, rfl, b0, e0, g0, s0⟩ := values_inS Tryd.underlying22 Tryd.underlying37 (by kernel_rfl) rfl rfl rfl rfl (by kernel_rfl) (by kernel_rfl) (by kernel_rfl) (by kernel_rfl) Tryd.underlying3 Tryd.underlying9 Tryd.underlying9 Tryd.underlying3 h0 wt0
  obtain ⟨a1, rfl, rfl, rfl, w1⟩ := open_string Tryd.underlying9 (hval 1 9 v1 rfl rfl) h1
  obtain ⟨xs1, rfl⟩ : ∃ l, a1 = strOf l := ⟨_, (strOf_of a1).symm⟩
  obtain ⟨a2, len2, c2, rfl⟩ := okWide_slice Tryd.underlying22 (hval 2 22 v2 rfl rfl)
  have k2 := h2
  have lt2 : ∀ x ∈ p2, x.block < W.heap.size := by obtain ⟨m, hm⟩ := k2; exact DataW.trod_lt m _ _ _ hm
  have wt2 : ∀ n ∈ d2.weights Tryd.prog 22, n ≤ 140737488355328 := fun n hn => by
    have := List.all_eq_true.1 hsz n (DataW.weights_mem_each (j := 2) rfl rfl n hn)
    have h1 : n ≤ reachBytes := by simpa using this
    exact Nat.le_trans h1 (by decide)
  obtain ⟨l2, rfl, b2, e2, g2, s2⟩ := values_inS Tryd.underlying22 Tryd.underlying37 (by kernel_rfl) rfl rfl rfl rfl (by kernel_rfl) (by kernel_rfl) (by kernel_rfl) (by kernel_rfl) Tryd.underlying3 Tryd.underlying9 Tryd.underlying9 Tryd.underlying3 h2 wt2
  obtain ⟨a3, rfl, rfl, rfl, w3⟩ := open_string Tryd.underlying9 (hval 3 9 v3 rfl rfl) h3
  obtain ⟨xs3, rfl⟩ : ∃ l, a3 = strOf l := ⟨_, (strOf_of a3).symm⟩
  clear hA0 hval0
  rw [MakeChecks.laidMetH_plain _ _ _ (by kernel_rfl)] at hL
  have hP : Plc W.heap := plc_of_laid hL (by repeat first | exact List.mem_cons_self .. | apply List.mem_cons_of_mem) (by repeat first | exact List.mem_cons_self .. | apply List.mem_cons_of_mem) (by repeat first | exact List.mem_cons_self .. | apply List.mem_cons_of_mem)
  refine (walkJobjBack a0 l0 c0 xs1 a2 l2 c2 xs3 W b0 e0 g0 s0 (by rw [← strOf_size]; exact w1) b2 e2 g2 s2 (by rw [← strOf_size]; exact w3) hP).mono fun e W' ⟨he, bel⟩ => ?_
  subst he
  exact ⟨_, rfl, _, _, _, [], _, [], hW', trodAll_mk1 (shut_bool Tryd.underlying4 _), (trodAll_cons_mk (Below.trod laidOutJobjBack (by kernel_rfl) (of_decide_eq_true (by kernel_rfl)) k0 bel lt0) (trodAll_cons_mk (shut_string Tryd.underlying9 w1) (trodAll_cons_mk (Below.trod laidOutJobjBack (by kernel_rfl) (of_decide_eq_true (by kernel_rfl)) k2 bel lt2) (trodAll_cons_mk (shut_string Tryd.underlying9 w3) trodAll_mk0)))), rfl, bel.frame _, fun h => by cases h⟩
theorem overJobjBack : Rows.jobjBackRow.holds Tryd.pinned (OpenSpec.ofChange Rows.jobjBackSpec) :=
  OpenClaim.holds_of_wide 3 Tryd.f3 rfl rfl rfl rfl rfl rfl rfl ⟨rfl, rfl, rfl, rfl, rfl⟩ rfl rfl rfl rfl rfl (by kernel_rfl) Tryd.func3 (by kernel_rfl)
    (of_decide_eq_true (by kernel_rfl)) (by unfold Func.isWrapper; first | (rw [if_pos (by decide +kernel)]; kernel_rfl) | (rw [if_neg (by decide +kernel)]; exact ⟨rfl, rfl⟩))
    (fun os started H enc _ => liftedJobjBack os started H enc)
theorem provedJobjBack : Rows.JobjBackCardSaid :=
  Claim7.holds_tied_plain_at .later [] [.data, .data, .data, .data, .pinned] true (true, "a7ec2c077fb089a779b2126c05a51a3e864c0c1fa116ce4e04905794e2b8067b") false overJobjBack (fun _ h => by cases h) (by kernel_rfl) (fun _ h => by cases h) jobjBack_row_tie rfl ⟨rfl, rfl⟩ (by kernel_rfl) rfl
    (fun f fn hf hfn => by
      obtain rfl : f = 3 := Option.some.inj ((show Tryd.prog.funcNamed "onionskin/onionskinlaw12.JobjBack" = some 3 by kernel_rfl).symm.trans hf) |>.symm
      obtain rfl : fn = Tryd.f3 := (Option.some.inj (Tryd.func3.symm.trans hfn)).symm
      exact ⟨by kernel_rfl, fun j t ht => by
        rw [Tryd.params3] at ht
        have hm : t ∈ [22, 9] := by have := Array.mem_of_getElem? ht; simp at this ⊢; first | omega | (rcases this with h | h | h | h <;> simp [h]) | (rcases this with h | h | h <;> simp [h]) | (rcases this with h | h <;> simp [h])
        have hall : ([22, 9].all fun u => !Tryd.prog.wantsStandIn u) = true := by kernel_rfl
        exact (show Tryd.prog.wantsStandIn t = false by simpa using List.all_eq_true.1 hall t hm)⟩)
    (by kernel_rfl)
#print axioms provedJobjBack
end Go.Proofs.YtjopikfkgjbcgaaDoor
