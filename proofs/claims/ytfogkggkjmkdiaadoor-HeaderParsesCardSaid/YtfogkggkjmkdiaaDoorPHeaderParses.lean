/- The law HeaderParses: whatever the input, the call returns true, and the input reads as it did. There are no conditions. -/
import Derived.Test.YtfogkggkjmkdiaaDoorLaw
import Derived.Test.YtfogkggkjmkdiaaDoorStrs
import Derived.Test.YtfogkggkjmkdiaaDoorChecked
import Derived.Test.YtfogkggkjmkdiaaDoorMa
import Derived.Test.YtfogkggkjmkdiaaDoorTie
import Derived.Test.YtfogkggkjmkdiaaDoorCards
import Derived.LaidMore
import Derived.Lay
import Derived.SevenTiedAt
import Derived.Stop.Joined
namespace Go.Proofs.YtfogkggkjmkdiaaDoor
open Go.ChangeShapes Go.WideShapes Go.ChangeAt Go.RowKit
open Go.ChangeMaps (open_string shut_string)
set_option linter.unusedVariables false
theorem ownHeaderParses : ownKnob Tryd.prog.godebug = none := by kernel_rfl
theorem laidOutHeaderParses : laidOutB Tryd.prog = true := by kernel_rfl
theorem walkHeaderParses (a0 : Option Addr) (xs0 : List UInt8) (c0 : Nat) (w : World) (h0 : Byt w.heap a0 xs0) (k0 : xs0.length ≤ c0) (m0 : c0 ≤ maxLen) (hP : Plc w.heap) :
    Calls Tryd.prog 8 #[.slice a0 xs0.length c0] w fun e w' => e = .returned (.bool true) ∧ Below w.heap.size w w' :=
  (lawParses_ch w.heap xs0 a0 c0 hP h0 k0 w rfl).mono fun e w' ⟨v, he, hr, hv, hx⟩ => ⟨by rw [he, hv], below_of hr hx⟩
set_option maxRecDepth 100000 in
theorem liftedHeaderParses (os : Os) (started : os.Started) (H : Type) (enc : TypeId × Value → H) :
    ReturnsInHanded {} Tryd.checked os 8 .any (fun w args => (Rows.headerParsesSpec.pre enc Tryd.prog Tryd.f8 Rows.headerParsesRow.domain false w args ∧ laidMetH Tryd.prog Rows.headerParsesRow.laid w) ∧ sizedMet enc Tryd.prog Tryd.f8 (OpenSpec.ofChange Rows.headerParsesSpec) false w args) (Rows.headerParsesSpec.post enc Tryd.prog Tryd.f8 false true false false) := by
  refine returnsInHanded_of_change_and (C := Tryd.checked) (X := fun w _ => laidMetH Tryd.prog Rows.headerParsesRow.laid w) (fun _ _ _ hh h => h.of_heap hh) ownHeaderParses started (by kernel_rfl) Tryd.func8
    (ChangeSpec.witness_shaped (enc := enc) (C := Tryd.checked) (os := os) (X := fun w _ => laidMetH Tryd.prog Rows.headerParsesRow.laid w) false (World.laidAll Tryd.prog os Rows.headerParsesRow.laid) #[.slice none 0 0] 64 (World.laidAll_os _ _ _)
      (World.shaped_of_ZipB (by kernel_rfl) (by kernel_rfl)) (by kernel_rfl) (by kernel_rfl) (by kernel_rfl)
      (by rw [MakeChecks.laidMetH_plain _ _ _ (by kernel_rfl)]; exact laidMet_laidAll _ (by kernel_rfl) (by kernel_rfl))) ?_
  intro W base args ds gs before hval0 hW hcnd _ hL _
  have hval : ∀ (j : Nat) t v, Tryd.f8.params[j]? = some t → args[j]? = some v → Value.okWide Tryd.prog W .any base t v := hval0
  have hW' := hW
  obtain ⟨p, q, hA0, hV, rfl, hfz, hnd⟩ := hW
  have hA : DataW.TrodAll enc Tryd.prog W 0 (fun _ => true) true Tryd.f8.params.toList args.toList ds p := hA0
  rw [Tryd.params8] at hA hval
  obtain ⟨v0, vs0, d0, ds0, p0, q0, hargs, rfl, rfl, h0, r0⟩ := trodAll_cons hA
  obtain ⟨rfl, rfl, rfl⟩ := trodAll_nil r0
  obtain rfl : args = #[v0] := by cases args; simp_all
  obtain ⟨rfl, rfl⟩ := trodVars_none hV
  obtain ⟨a0, len0, c0, rfl⟩ := okWide_slice Tryd.underlying22 (hval 0 22 v0 rfl rfl)
  have k0 := h0
  have lt0 : ∀ x ∈ p0, x.block < W.heap.size := by obtain ⟨m, hm⟩ := k0; exact DataW.trod_lt m _ _ _ hm
  obtain ⟨z0, w0⟩ : ∃ zs, IsRow .u8 W a0 len0 c0 zs := by
    obtain ⟨fuel, hf⟩ := h0
    rcases open_ints Tryd.underlying22 Tryd.underlying5 (by kernel_rfl) hf with ⟨hcs, _⟩ | ⟨x, l, c, zs, hcs, _, hl, hm, hz, _, hcell, hwz⟩
    · simp [Value.cells] at hcs
      obtain ⟨rfl, rfl, rfl⟩ := hcs
      exact ⟨[], .inl ⟨rfl, rfl, rfl, rfl⟩⟩
    · simp [Value.cells] at hcs
      obtain ⟨rfl, rfl, rfl⟩ := hcs
      exact ⟨zs, .inr ⟨_, rfl, hl, hm, by simpa using hz, hcell, hwz⟩⟩
  obtain ⟨xs0, rfl, b0, e0, g0⟩ := bytes_in w0
  clear hA0 hval0
  rw [MakeChecks.laidMetH_plain _ _ _ (by kernel_rfl)] at hL
  have hP : Plc W.heap := plc_of_laid hL (by first | exact List.mem_cons_self .. | exact List.mem_cons_of_mem _ (List.mem_cons_self ..) | exact List.mem_cons_of_mem _ (List.mem_cons_of_mem _ (List.mem_cons_self ..)))
  refine (walkHeaderParses a0 xs0 c0 W b0 e0 g0 hP).mono fun e W' ⟨he, bel⟩ => ?_
  subst he
  exact ⟨_, rfl, _, _, _, [], _, [], hW', trodAll_mk1 (shut_bool Tryd.underlying4 _), (trodAll_cons_mk (Below.trod laidOutHeaderParses (by kernel_rfl) (of_decide_eq_true (by kernel_rfl)) k0 bel lt0) trodAll_mk0), rfl, bel.frame _, fun h => by cases h⟩
theorem overHeaderParses : Rows.headerParsesRow.holds Tryd.pinned (OpenSpec.ofChange Rows.headerParsesSpec) :=
  OpenClaim.holds_of_wide 8 Tryd.f8 rfl rfl rfl rfl rfl rfl rfl ⟨rfl, rfl, rfl, rfl, rfl⟩ rfl rfl rfl rfl rfl (by kernel_rfl) Tryd.func8 (by kernel_rfl)
    (of_decide_eq_true (by kernel_rfl)) (by unfold Func.isWrapper; first | (rw [if_pos (by decide +kernel)]; kernel_rfl) | (rw [if_neg (by decide +kernel)]; exact ⟨rfl, rfl⟩))
    (fun os started H enc _ => liftedHeaderParses os started H enc)
theorem provedHeaderParses : Rows.HeaderParsesCardSaid :=
  Claim7.holds_tied_plain_at .later [] [.data, .data, .pinned] true (true, "bcfc387c8ce74af20902e6ae951e17b7a753cda9ead938dff39545cb2f153bc1") false overHeaderParses (fun _ h => by cases h) (by kernel_rfl) (fun _ h => by cases h) headerParses_row_tie rfl ⟨rfl, rfl⟩ (by kernel_rfl) rfl
    (fun f fn hf hfn => by
      obtain rfl : f = 8 := Option.some.inj ((show Tryd.prog.funcNamed "onionskin/onionskinlaw06.HeaderParses" = some 8 by kernel_rfl).symm.trans hf) |>.symm
      obtain rfl : fn = Tryd.f8 := (Option.some.inj (Tryd.func8.symm.trans hfn)).symm
      exact ⟨by kernel_rfl, fun j t ht => by
        rw [Tryd.params8] at ht
        have hm : t ∈ [22] := by have := Array.mem_of_getElem? ht; simp at this ⊢; omega
        have hall : ([22].all fun u => !Tryd.prog.wantsStandIn u) = true := by kernel_rfl
        exact (show Tryd.prog.wantsStandIn t = false by simpa using List.all_eq_true.1 hall t hm)⟩)
    (by kernel_rfl)
#print axioms provedHeaderParses
end Go.Proofs.YtfogkggkjmkdiaaDoor
