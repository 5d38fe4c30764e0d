/- Where values are, and rows that are cut out: onionskinlaw12.JobjLooks. -/
import Derived.Test.YtjopikfkgjbcgaaGreatDoorOt
import Derived.Test.YtjopikfkgjbcgaaGreatDoorRows
import Derived.Lib.LaidU8T
import Derived.Lib.LaidTab
namespace Go.Proofs.YtjopikfkgjbcgaaGreatDoor
set_option linter.unnecessarySimpa false
set_option linter.unusedSimpArgs false
set_option linter.unusedVariables false
open Go.RowKit
theorem strL : (140737488355328 : Nat) ≤ maxLen := by decide
/-- Numbers and lengths of values that came in. -/
def InJ (l : List JV) : Prop := ∀ x ∈ l, (x.2.1.length ≤ 140737488355328 ∧ x.2.2.1.length ≤ 140737488355328) ∧ (Lit.int .i64 x.1).wf = true ∧ (Lit.int .i64 x.2.2.2).wf = true
theorem wf_i64 {n : Int} (h : (Lit.int .i64 n).wf = true) : -9223372036854775808 ≤ n ∧ n ≤ 9223372036854775807 := by
  simp [Lit.wf, IntKind.min, IntKind.max, IntKind.bits, IntKind.signed] at h
  omega
theorem InJ.ok {l : List JV} (h : InJ l) : OkJ l := fun x hx => ⟨(h x hx).1.1, (h x hx).1.2, (wf_i64 (h x hx).2.2).2⟩
theorem InJ.small {l : List JV} (h : InJ l) : SmallJ l := fun x hx => (h x hx).1
/-- Few: the contract as the laws use it. -/
theorem fewC_ch (h : Heap) (l : List JV) (a : Option Addr) (cap : Nat) (hB : Jvs h a l) (hl : l.length ≤ maxLen) (hz : InJ l) : CH Tryz.prog 5 #[.slice a l.length cap] h fun v h' => v = .bool (fewJ l) ∧ h = h' :=
  (few_ch h l a l.length cap rfl hB hl hz.small).mono fun _ _ ⟨q1, q2⟩ => ⟨q1, q2.symm⟩
/-- Values laid over a row's memory. -/
theorem HO.wipe {ρ : Operand → Value} {h : Heap} {d : Option Tmp} {ty : TypeId} {pos : String} {af : Array Edge} {gd : Option (Nat × Bool)} {K : Value → Heap → Prop} {x y : Operand} {g i : Nat} {cur : List Value} (hx : ρ x = .pointer (some ⟨g, i * 4, none⟩)) (hy : ρ y = .agg (encJ zJ).toArray) (hb : h[g]? = some (.cells cur.toArray 41 (0, 0))) (hi : i * 4 + 4 ≤ cur.length)
    (k : ∀ (h' : Heap) (cur' : List Value), h'.size = h.size → (∀ j, j ≠ g → h'[j]? = h[j]?) → h'[g]? = some (.cells cur'.toArray 41 (0, 0)) → cur'.length = cur.length → K undef h') : HO Tryz.prog ⟨d, .store 41 x y, ty, pos, af, gd⟩ ρ h K :=
  HO.storeAgg sz41 hx hy (encJ_one zJ) hb rfl hi fun h' w => k h' _ w.size w.old w.new (by simp only [List.length_append, List.length_take, List.length_drop, encJ_len]; omega)
theorem run_bz (w : World) : (Instr.build 41 #[]).run Tryz.prog w = .ok (.agg (encJ zJ).toArray) w := by kernel_rfl
theorem Runs.zeroJ {ρ : Operand → Value} {h : Heap} {d : Option Tmp} {ty : TypeId} {pos : String} {af : Array Edge} {gd : Option (Nat × Bool)} : Runs Tryz.prog ⟨d, .build 41 #[], ty, pos, af, gd⟩ ρ h (.agg (encJ zJ).toArray) :=
  Runs.build fun w => by
    have e : (#[] : Array (Nat × Operand)).map (fun (i, x) => (i, ρ x)) = #[] := by simp
    rw [e]
    exact run_bz w
theorem same_self {A B : List JV} (h : A = B) : (A == B) = true := by rw [h]; simp
theorem sameC_ch (h : Heap) (A B : List JV) (a b : Option Addr) (c d : Nat) (hA : Jvs h a A) (hB : Jvs h b B) (hlA : A.length ≤ 1000000) (hlB : B.length ≤ 1000000) (he : A = B) : CH Tryz.prog 6 #[.slice a A.length c, .slice b B.length d] h fun v h' => v = .bool true ∧ h = h' :=
  (same_ch h A B a b A.length B.length c d rfl rfl hA hB hlA hlB).mono fun _ _ ⟨q1, q2⟩ => ⟨by rw [q1, same_self he], q2.symm⟩
theorem cutO_le (l : List JV) (at0 : Int) : (cutO l at0).length ≤ l.length := by
  unfold cutO
  split
  · rw [namedO_len, List.length_drop, List.length_take]; omega
  · exact Nat.zero_le _
end Go.Proofs.YtjopikfkgjbcgaaGreatDoor
/-! The tables that are laid, as the walks take them. -/
namespace Go.Proofs.YtjopikfkgjbcgaaGreatDoor
set_option linter.unnecessarySimpa false
set_option linter.unusedSimpArgs false
set_option linter.unusedVariables false
open Go.RowKit
theorem plc_of_world (w : World) (q : Lib.Utf8Tabs 0 1 w ∧ Lib.TabIs Tryz.prog w "internal/strconv.uint64pow10" .u64 Lib.pow10Tab) : Plc w.heap := fun w' hw => by
  refine ⟨⟨fun c hc => ?_, fun i hi => ⟨?_, ?_⟩⟩, ?_⟩
  · have := q.1.1 c hc
    rw [cell_cellH] at this ⊢
    rw [hw]; exact this
  · have := (q.1.2 i hi).1
    rw [cell_cellH] at this ⊢
    rw [hw]; exact this
  · have := (q.1.2 i hi).2
    rw [cell_cellH] at this ⊢
    rw [hw]; exact this
  · have h2 := q.2
    unfold Lib.TabIs World.var? at h2 ⊢
    rw [gpow, Option.bind_some] at h2 ⊢
    simp only [hw]
    exact h2
theorem first_data : Rows.laid_unicode_utf8_first = Go.Lib.firstData := by kernel_rfl
theorem accept_data : (Rows.laid_unicode_utf8_acceptRanges : DataW Unit) = Go.Lib.acceptData := by kernel_rfl
theorem pow_data : (Rows.laid_internal_strconv_uint64pow10 : DataW Unit) = Lib.tabData .u64 Lib.pow10Tab := by kernel_rfl
theorem plc_of_laid {l : List (String × DataW Unit)} {w : World} (h : laidMet Tryz.prog l w) (m1 : ("unicode/utf8.first", Rows.laid_unicode_utf8_first) ∈ l) (m2 : ("unicode/utf8.acceptRanges", Rows.laid_unicode_utf8_acceptRanges) ∈ l) (m3 : ("internal/strconv.uint64pow10", Rows.laid_internal_strconv_uint64pow10) ∈ l) : Plc w.heap := by
  have r1 := Go.Lib.laidMet.reads h m1
  have r2 := Go.Lib.laidMet.reads h m2
  have r3 := Go.Lib.laidMet.reads h m3
  rw [first_data] at r1
  rw [accept_data] at r2
  rw [pow_data] at r3
  refine plc_of_world w ⟨utf8Tabs_of_readsT (U8Types.of196 Tryz.lays196) ⟨by kernel_rfl, by kernel_rfl, by kernel_rfl, by kernel_rfl, by kernel_rfl, by kernel_rfl, by kernel_rfl⟩ r1 r2, ?_⟩
  obtain ⟨g, t, cs, fuel, p, hg, hty, hvar, hd⟩ := r3
  obtain rfl : g = 3 := Option.some.inj (hg.symm.trans gpow)
  have ht0 : (Tryz.prog.globals[3]?).map (·.type) = some 115 := by kernel_rfl
  obtain rfl : t = 115 := Option.some.inj (hty.symm.trans ht0)
  unfold Lib.TabIs
  rw [hvar, ← Lib.cells_of_tab Tryz.underlying115 Tryz.underlying104 (by kernel_rfl) (by kernel_rfl) hd]
end Go.Proofs.YtjopikfkgjbcgaaGreatDoor
