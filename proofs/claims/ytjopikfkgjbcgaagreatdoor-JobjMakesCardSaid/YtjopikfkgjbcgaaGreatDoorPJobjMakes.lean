/- The law JobjMakes: whatever the input, the call returns true, and the input reads as it did. There are no conditions. -/
import Derived.Test.YtjopikfkgjbcgaaGreatDoorLaw
import Derived.Test.YtjopikfkgjbcgaaGreatDoorStrs
import Derived.Test.YtjopikfkgjbcgaaGreatDoorChecked
import Derived.Test.YtjopikfkgjbcgaaGreatDoorYk
import Derived.Test.YtjopikfkgjbcgaaGreatDoorLawJ
import Derived.Test.YtjopikfkgjbcgaaGreatDoorLawK
import Derived.Test.YtjopikfkgjbcgaaGreatDoorTie
import Derived.Test.YtjopikfkgjbcgaaGreatDoorCards
import Derived.LaidMore
import Derived.Lay
import Derived.SevenTiedAt
import Derived.Stop.Joined
namespace Go.Proofs.YtjopikfkgjbcgaaGreatDoor
open Go.ChangeShapes Go.WideShapes Go.ChangeAt Go.RowKit
open Go.ChangeMaps (open_string shut_string)
set_option linter.unusedVariables false
theorem ownJobjMakes : ownKnob Tryz.prog.godebug = none := by kernel_rfl
theorem laidOutJobjMakes : laidOutB Tryz.prog = true := by kernel_rfl
theorem walkJobjMakes (xs0 : List UInt8) (a1 : Int) (a2 : Option Addr) (l2 : List (List UInt8)) (c2 : Nat) (a3 : Option Addr) (l3 : List RowJ) (c3 : Nat) (w : World) (h0 : xs0.length ≤ maxLen) (h1 : (Lit.int .i64 a1).wf = true) (h2 : Row gS [] w.heap a2 l2) (k2 : l2.length ≤ c2) (m2 : c2 ≤ maxLen) (z2 : ∀ x ∈ l2, x.length ≤ 140737488355328) (h3 : Jvss w.heap a3 l3) (k3 : l3.length ≤ c3) (m3 : c3 ≤ maxLen) (z3 : ∀ x ∈ l3, x.2.1 ≤ maxLen ∧ InJ x.2.2) (hP : Plc w.heap) :
    Calls Tryz.prog 3 #[.string (strOf xs0), .int .i64 a1, .slice a2 l2.length c2, .slice a3 l3.length c3] w fun e w' => e = .returned (.bool true) ∧ Below w.heap.size w w' :=
  (lawMakes_ch w.heap xs0 a1 l2 l3 a2 a3 c2 c3 h1 h2 z2 h3 z3 hP w rfl).mono fun e w' ⟨v, he, hr, hv, hx⟩ => ⟨by rw [he, hv], below_of hr hx⟩
set_option maxRecDepth 100000 in
theorem liftedJobjMakes (os : Os) (started : os.Started) (H : Type) (enc : TypeId × Value → H) :
    ReturnsInHanded {} Tryz.checked os 3 .any (fun w args => (Rows.jobjMakesSpec.pre enc Tryz.prog Tryz.f3 Rows.jobjMakesRow.domain false w args ∧ laidMetH Tryz.prog Rows.jobjMakesRow.laid w) ∧ sizedMet enc Tryz.prog Tryz.f3 (OpenSpec.ofChange Rows.jobjMakesSpec) false w args) (Rows.jobjMakesSpec.post enc Tryz.prog Tryz.f3 false true false false) := by
  refine returnsInHanded_of_change_and (C := Tryz.checked) (X := fun w _ => laidMetH Tryz.prog Rows.jobjMakesRow.laid w) (fun _ _ _ hh h => h.of_heap hh) ownJobjMakes started (by kernel_rfl) Tryz.func3
    (ChangeSpec.witness_shaped (enc := enc) (C := Tryz.checked) (os := os) (X := fun w _ => laidMetH Tryz.prog Rows.jobjMakesRow.laid w) false (World.laidAll Tryz.prog os Rows.jobjMakesRow.laid) #[.string ByteArray.empty, .int .i64 0, .slice none 0 0, .slice none 0 0] 64 (World.laidAll_os _ _ _)
      (World.shaped_of_ZipB (by kernel_rfl) (by kernel_rfl)) (by kernel_rfl) (by kernel_rfl) (by kernel_rfl)
      (by rw [MakeChecks.laidMetH_plain _ _ _ (by kernel_rfl)]; exact laidMet_laidAll _ (by kernel_rfl) (by kernel_rfl))) ?_
  intro W base args ds gs before hval0 hW hcnd hsz hL _
  have hval : ∀ (j : Nat) t v, Tryz.f3.params[j]? = some t → args[j]? = some v → Value.okWide Tryz.prog W .any base t v := hval0
  have hW' := hW
  obtain ⟨p, q, hA0, hV, rfl, hfz, hnd⟩ := hW
  have hA : DataW.TrodAll enc Tryz.prog W 0 (fun _ => true) true Tryz.f3.params.toList args.toList ds p := hA0
  rw [Tryz.params3] at hA hval
  rw [Tryz.params3] at hsz
  obtain ⟨v0, vs0, d0, ds0, p0, q0, hargs, rfl, rfl, h0, r0⟩ := trodAll_cons hA
  obtain ⟨v1, vs1, d1, ds1, p1, q1, rfl, rfl, rfl, h1, r1⟩ := trodAll_cons r0
  obtain ⟨v2, vs2, d2, ds2, p2, q2, rfl, rfl, rfl, h2, r2⟩ := trodAll_cons r1
  obtain ⟨v3, vs3, d3, ds3, p3, q3, rfl, rfl, rfl, h3, r3⟩ := trodAll_cons r2
  obtain ⟨rfl, rfl, rfl⟩ := trodAll_nil r3
  obtain rfl : args = #[v0, v1, v2, v3] := by cases args; simp_all
  obtain ⟨rfl, rfl⟩ := trodVars_none hV
  obtain ⟨a0, rfl, rfl, rfl, w0⟩ := open_string Tryz.underlying9 (hval 0 9 v0 rfl rfl) h0
  obtain ⟨xs0, rfl⟩ : ∃ l, a0 = strOf l := ⟨_, (strOf_of a0).symm⟩
  obtain ⟨a1, rfl, rfl, rfl, w1⟩ := open_int Tryz.underlying3 (hval 1 3 v1 rfl rfl) h1
  obtain ⟨a2, len2, c2, rfl⟩ := okWide_slice Tryz.underlying22 (hval 2 22 v2 rfl rfl)
  have k2 := h2
  have lt2 : ∀ x ∈ p2, x.block < W.heap.size := by obtain ⟨m, hm⟩ := k2; exact DataW.trod_lt m _ _ _ hm
  have wt2 : ∀ n ∈ d2.weights Tryz.prog 22, n ≤ 140737488355328 := fun n hn => by
    have := List.all_eq_true.1 hsz n (DataW.weights_mem_each (j := 2) rfl rfl n hn)
    have h1 : n ≤ reachBytes := by simpa using this
    exact Nat.le_trans h1 (by decide)
  obtain ⟨l2, rfl, b2, e2, g2, s2⟩ := strs_inS Tryz.underlying22 Tryz.underlying9 (by kernel_rfl) h2 wt2
  obtain ⟨a3, len3, c3, rfl⟩ := okWide_slice Tryz.underlying23 (hval 3 23 v3 rfl rfl)
  have k3 := h3
  have lt3 : ∀ x ∈ p3, x.block < W.heap.size := by obtain ⟨m, hm⟩ := k3; exact DataW.trod_lt m _ _ _ hm
  have wt3 : ∀ n ∈ d3.weights Tryz.prog 23, n ≤ 140737488355328 := fun n hn => by
    have := List.all_eq_true.1 hsz n (DataW.weights_mem_each (j := 3) rfl rfl n hn)
    have h1 : n ≤ reachBytes := by simpa using this
    exact Nat.le_trans h1 (by decide)
  obtain ⟨l3, rfl, b3, e3, g3, s3⟩ := rows_inS Tryz.underlying23 Tryz.underlying26 Tryz.underlying41 (by kernel_rfl) (by kernel_rfl) rfl rfl rfl rfl (by kernel_rfl) (by kernel_rfl) (by kernel_rfl) (by kernel_rfl) Tryz.underlying3 Tryz.underlying9 Tryz.underlying9 Tryz.underlying3 h3 wt3
  clear hA0 hval0
  rw [MakeChecks.laidMetH_plain _ _ _ (by kernel_rfl)] at hL
  have hP : Plc W.heap := plc_of_laid hL (by repeat first | exact List.mem_cons_self .. | apply List.mem_cons_of_mem) (by repeat first | exact List.mem_cons_self .. | apply List.mem_cons_of_mem) (by repeat first | exact List.mem_cons_self .. | apply List.mem_cons_of_mem)
  refine (walkJobjMakes xs0 a1 a2 l2 c2 a3 l3 c3 W (by rw [← strOf_size]; exact w0) w1 b2 e2 g2 s2 b3 e3 g3 s3 hP).mono fun e W' ⟨he, bel⟩ => ?_
  subst he
  exact ⟨_, rfl, _, _, _, [], _, [], hW', trodAll_mk1 (shut_bool Tryz.underlying4 _), (trodAll_cons_mk (shut_string Tryz.underlying9 w0) (trodAll_cons_mk (shut_int Tryz.underlying3 w1) (trodAll_cons_mk (Below.trod laidOutJobjMakes (by kernel_rfl) (of_decide_eq_true (by kernel_rfl)) k2 bel lt2) (trodAll_cons_mk (Below.trod laidOutJobjMakes (by kernel_rfl) (of_decide_eq_true (by kernel_rfl)) k3 bel lt3) trodAll_mk0)))), rfl, bel.frame _, fun h => by cases h⟩
theorem overJobjMakes : Rows.jobjMakesRow.holds Tryz.pinned (OpenSpec.ofChange Rows.jobjMakesSpec) :=
  OpenClaim.holds_of_wide 3 Tryz.f3 rfl rfl rfl rfl rfl rfl rfl ⟨rfl, rfl, rfl, rfl, rfl⟩ rfl rfl rfl rfl rfl (by kernel_rfl) Tryz.func3 (by kernel_rfl)
    (of_decide_eq_true (by kernel_rfl)) (by unfold Func.isWrapper; first | (rw [if_pos (by decide +kernel)]; kernel_rfl) | (rw [if_neg (by decide +kernel)]; exact ⟨rfl, rfl⟩))
    (fun os started H enc _ => liftedJobjMakes os started H enc)
theorem provedJobjMakes : Rows.JobjMakesCardSaid :=
  Claim7.holds_tied_plain_at .later [] [.data, .data, .data, .data, .pinned] true (true, "1adca1cb8d51a824bc43260584f4c8be21615cc66993d1f700bb2e49477b2cd0") false overJobjMakes (fun _ h => by cases h) (by kernel_rfl) (fun _ h => by cases h) jobjMakes_row_tie rfl ⟨rfl, rfl⟩ (by kernel_rfl) rfl
    (fun f fn hf hfn => by
      obtain rfl : f = 3 := Option.some.inj ((show Tryz.prog.funcNamed "onionskin/onionskinlaw12.JobjMakes" = some 3 by kernel_rfl).symm.trans hf) |>.symm
      obtain rfl : fn = Tryz.f3 := (Option.some.inj (Tryz.func3.symm.trans hfn)).symm
      exact ⟨by kernel_rfl, fun j t ht => by
        rw [Tryz.params3] at ht
        have hm : t ∈ [9, 3, 22, 23] := by have := Array.mem_of_getElem? ht; simp at this ⊢; first | omega | (rcases this with h | h | h | h <;> simp [h]) | (rcases this with h | h | h <;> simp [h]) | (rcases this with h | h <;> simp [h])
        have hall : ([9, 3, 22, 23].all fun u => !Tryz.prog.wantsStandIn u) = true := by kernel_rfl
        exact (show Tryz.prog.wantsStandIn t = false by simpa using List.all_eq_true.1 hall t hm)⟩)
    (by kernel_rfl)
#print axioms provedJobjMakes
end Go.Proofs.YtjopikfkgjbcgaaGreatDoor
