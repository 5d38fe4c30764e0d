/- The law OctalSum: whatever the input, the call returns true, and the input reads as it did. There are no conditions. -/
import Derived.Test.YtfogkggkjmkdiaaDoorLaw
import Derived.Test.YtfogkggkjmkdiaaDoorStrs
import Derived.Test.YtfogkggkjmkdiaaDoorChecked
import Derived.Test.YtfogkggkjmkdiaaDoorLb
import Derived.Test.YtfogkggkjmkdiaaDoorTie
import Derived.Test.YtfogkggkjmkdiaaDoorCards
import Derived.LaidMore
import Derived.Lay
import Derived.SevenTiedAt
import Derived.Stop.Joined
namespace Go.Proofs.YtfogkggkjmkdiaaDoor
open Go.ChangeShapes Go.WideShapes Go.ChangeAt Go.RowKit
open Go.ChangeMaps (open_string shut_string)
set_option linter.unusedVariables false
theorem ownOctalSum : ownKnob Tryd.prog.godebug = none := by kernel_rfl
theorem laidOutOctalSum : laidOutB Tryd.prog = true := by kernel_rfl
theorem walkOctalSum (a0 : Option Addr) (xs0 : List UInt8) (c0 : Nat) (a1 : Int) (a2 : UInt8) (w : World) (h0 : Byt w.heap a0 xs0) (k0 : xs0.length ≤ c0) (m0 : c0 ≤ maxLen) (h1 : (Lit.int .i64 a1).wf = true) :
    Calls Tryd.prog 7 #[.slice a0 xs0.length c0, .int .i64 a1, B8 a2] w fun e w' => e = .returned (.bool true) ∧ Below w.heap.size w w' :=
  (lawSum_ch w.heap xs0 a0 c0 a1 a2 h0 k0 w rfl).mono fun e w' ⟨v, he, hr, hv, hx⟩ => ⟨by rw [he, hv], below_of hr hx⟩
set_option maxRecDepth 100000 in
theorem liftedOctalSum (os : Os) (started : os.Started) (H : Type) (enc : TypeId × Value → H) :
    ReturnsInHanded {} Tryd.checked os 7 .any (fun w args => (Rows.octalSumSpec.pre enc Tryd.prog Tryd.f7 Rows.octalSumRow.domain false w args ∧ laidMetH Tryd.prog Rows.octalSumRow.laid w) ∧ sizedMet enc Tryd.prog Tryd.f7 (OpenSpec.ofChange Rows.octalSumSpec) false w args) (Rows.octalSumSpec.post enc Tryd.prog Tryd.f7 false true false false) := by
  refine returnsInHanded_of_change_and (C := Tryd.checked) (X := fun w _ => laidMetH Tryd.prog Rows.octalSumRow.laid w) (fun _ _ _ hh h => h.of_heap hh) ownOctalSum started (by kernel_rfl) Tryd.func7
    (ChangeSpec.witness_shaped (enc := enc) (C := Tryd.checked) (os := os) (X := fun w _ => laidMetH Tryd.prog Rows.octalSumRow.laid w) false (World.laidAll Tryd.prog os Rows.octalSumRow.laid) #[.slice none 0 0, .int .i64 0, .int .u8 0] 64 (World.laidAll_os _ _ _)
      (World.shaped_of_ZipB (by kernel_rfl) (by kernel_rfl)) (by kernel_rfl) (by kernel_rfl) (by kernel_rfl)
      (by rw [MakeChecks.laidMetH_plain _ _ _ (by kernel_rfl)]; exact laidMet_laidAll _ (by kernel_rfl) (by kernel_rfl))) ?_
  intro W base args ds gs before hval0 hW hcnd _ hL _
  have hval : ∀ (j : Nat) t v, Tryd.f7.params[j]? = some t → args[j]? = some v → Value.okWide Tryd.prog W .any base t v := hval0
  have hW' := hW
  obtain ⟨p, q, hA0, hV, rfl, hfz, hnd⟩ := hW
  have hA : DataW.TrodAll enc Tryd.prog W 0 (fun _ => true) true Tryd.f7.params.toList args.toList ds p := hA0
  rw [Tryd.params7] at hA hval
  obtain ⟨v0, vs0, d0, ds0, p0, q0, hargs, rfl, rfl, h0, r0⟩ := trodAll_cons hA
  obtain ⟨v1, vs1, d1, ds1, p1, q1, rfl, rfl, rfl, h1, r1⟩ := trodAll_cons r0
  obtain ⟨v2, vs2, d2, ds2, p2, q2, rfl, rfl, rfl, h2, r2⟩ := trodAll_cons r1
  obtain ⟨rfl, rfl, rfl⟩ := trodAll_nil r2
  obtain rfl : args = #[v0, v1, v2] := by cases args; simp_all
  obtain ⟨rfl, rfl⟩ := trodVars_none hV
  obtain ⟨a0, len0, c0, rfl⟩ := okWide_slice Tryd.underlying22 (hval 0 22 v0 rfl rfl)
  have k0 := h0
  have lt0 : ∀ x ∈ p0, x.block < W.heap.size := by obtain ⟨m, hm⟩ := k0; exact DataW.trod_lt m _ _ _ hm
  obtain ⟨z0, w0⟩ : ∃ zs, IsRow .u8 W a0 len0 c0 zs := by
    obtain ⟨fuel, hf⟩ := h0
    rcases open_ints Tryd.underlying22 Tryd.underlying5 (by kernel_rfl) hf with ⟨hcs, _⟩ | ⟨x, l, c, zs, hcs, _, hl, hm, hz, _, hcell, hwz⟩
    · simp [Value.cells] at hcs
      obtain ⟨rfl, rfl, rfl⟩ := hcs
      exact ⟨[], .inl ⟨rfl, rfl, rfl, rfl⟩⟩
    · simp [Value.cells] at hcs
      obtain ⟨rfl, rfl, rfl⟩ := hcs
      exact ⟨zs, .inr ⟨_, rfl, hl, hm, by simpa using hz, hcell, hwz⟩⟩
  obtain ⟨xs0, rfl, b0, e0, g0⟩ := bytes_in w0
  obtain ⟨a1, rfl, rfl, rfl, w1⟩ := open_int Tryd.underlying3 (hval 1 3 v1 rfl rfl) h1
  obtain ⟨n2, rfl, rfl, rfl, w2⟩ := open_int Tryd.underlying5 (hval 2 5 v2 rfl rfl) h2
  obtain ⟨a2, rfl⟩ : ∃ a : UInt8, n2 = (a.toNat : Int) := ⟨UInt8.ofNat n2.toNat, (u8_in w2).symm⟩
  clear hA0 hval0
  refine (walkOctalSum a0 xs0 c0 a1 a2 W b0 e0 g0 w1).mono fun e W' ⟨he, bel⟩ => ?_
  subst he
  exact ⟨_, rfl, _, _, _, [], _, [], hW', trodAll_mk1 (shut_bool Tryd.underlying4 _), (trodAll_cons_mk (Below.trod laidOutOctalSum (by kernel_rfl) (of_decide_eq_true (by kernel_rfl)) k0 bel lt0) (trodAll_cons_mk (shut_int Tryd.underlying3 w1) (trodAll_cons_mk (shut_int Tryd.underlying5 w2) trodAll_mk0))), rfl, bel.frame _, fun h => by cases h⟩
theorem overOctalSum : Rows.octalSumRow.holds Tryd.pinned (OpenSpec.ofChange Rows.octalSumSpec) :=
  OpenClaim.holds_of_wide 7 Tryd.f7 rfl rfl rfl rfl rfl rfl rfl ⟨rfl, rfl, rfl, rfl, rfl⟩ rfl rfl rfl rfl rfl (by kernel_rfl) Tryd.func7 (by kernel_rfl)
    (of_decide_eq_true (by kernel_rfl)) (by unfold Func.isWrapper; first | (rw [if_pos (by decide +kernel)]; kernel_rfl) | (rw [if_neg (by decide +kernel)]; exact ⟨rfl, rfl⟩))
    (fun os started H enc _ => liftedOctalSum os started H enc)
theorem provedOctalSum : Rows.OctalSumCardSaid :=
  Claim7.holds_tied_plain_at .later [] [.data, .pinned] true (true, "bcfc387c8ce74af20902e6ae951e17b7a753cda9ead938dff39545cb2f153bc1") false overOctalSum (fun _ h => by cases h) (by kernel_rfl) (fun _ h => by cases h) octalSum_row_tie rfl ⟨rfl, rfl⟩ (by kernel_rfl) rfl
    (fun f fn hf hfn => by
      obtain rfl : f = 7 := Option.some.inj ((show Tryd.prog.funcNamed "onionskin/onionskinlaw05.OctalSum" = some 7 by kernel_rfl).symm.trans hf) |>.symm
      obtain rfl : fn = Tryd.f7 := (Option.some.inj (Tryd.func7.symm.trans hfn)).symm
      exact ⟨by kernel_rfl, fun j t ht => by
        rw [Tryd.params7] at ht
        have hm : t ∈ [22, 3, 5] := by have := Array.mem_of_getElem? ht; simp at this ⊢; omega
        have hall : ([22, 3, 5].all fun u => !Tryd.prog.wantsStandIn u) = true := by kernel_rfl
        exact (show Tryd.prog.wantsStandIn t = false by simpa using List.all_eq_true.1 hall t hm)⟩)
    (by kernel_rfl)
#print axioms provedOctalSum
end Go.Proofs.YtfogkggkjmkdiaaDoor
