/- onionskinref05.digits, which calls itself. -/
import Derived.Test.YtfogkggkjmkdiaaDoorWi
namespace Go.Proofs.YtfogkggkjmkdiaaDoor
set_option linter.unnecessarySimpa false
set_option linter.unusedSimpArgs false
set_option linter.unusedVariables false
open Go.RowKit
abbrev In (n : Nat) : Value := .int .i64 (n : Int)
/-- So many digits of a number in a base, the highest first. -/
def dgR (base : Nat) : Nat → Nat → List Nat
  | _, 0 => []
  | n, m + 1 => dgR base (n / base) m ++ [n % base]
theorem dgR_len (base n m : Nat) : (dgR base n m).length = m := by
  induction m generalizing n with
  | zero => rfl
  | succ m ih => rw [dgR, List.length_append, ih]; rfl
theorem dgR_dgts (b n m : Nat) : dgR (2 ^ b) n m = dgts b n m := by
  induction m generalizing n with
  | zero => rfl
  | succ m ih =>
    rw [dgR, ih]
    unfold dgts
    rw [List.range_succ, List.map_append]
    congr 1
    · apply List.map_congr_left
      intro j hj
      have hj' := List.mem_range.1 hj
      unfold dgt
      rw [Nat.div_div_eq_div_mul, ← Nat.pow_add, show m + 1 - 1 - j = (m - 1 - j) + 1 by omega, Nat.mul_add, Nat.mul_one, Nat.add_comm (b * (m - 1 - j)) b]
    · simp [dgt]
theorem run_int1 (n : Int) (w : World) : (Instr.buildSlice 48 1 #[(0, .int .i64 n)]).run Tryd.prog w = .ok (.slice (some ⟨w.heap.size, 0, none⟩) 1 1) (w.alloc (.cells #[.int .i64 n] 3)) := by kernel_rfl
section
variable {ρ : Operand → Value} {h : Heap} {d : Option Tmp} {ty : TypeId} {pos : String} {af : Array Edge} {gd : Option (Nat × Bool)} {K : Value → Heap → Prop} {x : Operand}
theorem HO.int1 (n : Int) (hx : ρ x = .int .i64 n) (k : ∀ h', Nw h h' (.cells ([Value.int .i64 n]).toArray 3 (0, 0)) → K (.slice (some ⟨h.size, 0, none⟩) 1 1) h') : HO Tryd.prog ⟨d, .buildSlice 48 1 #[(0, x)], ty, pos, af, gd⟩ ρ h K :=
  HO.buildSlice (cells := [Value.int .i64 n]) (fun w => by
    have e : (#[(0, x)] : Array (Nat × Operand)).map (fun (i, x) => (i, ρ x)) = #[(0, .int .i64 n)] := by simp [hx]
    rw [e]
    exact run_int1 n w) k
end
theorem digits_ch (base : Nat) (hb0 : 0 < base) (hb1 : base ≤ 256) : ∀ (m : Nat) (h : Heap) (n : Nat), n ≤ 4611686018427387904 → m ≤ 12 →
    CH Tryd.prog 33 #[I64 (n : Int), I64 (base : Int), I64 (m : Int)] h fun v h' => ∃ w, v = .tuple #[w, I64 ((n / base ^ m : Nat) : Int)] ∧ Own h' h.size 3 1 w m ((dgR base n m).map In) ∧ Ext h h'
  | 0, h, n, hn, hm => by
    refine CH.of_body Tryd.func33 rfl rfl rfl ?_
    intro f hf
    have p0 : f 0 = I64 (n : Int) := by rw [hf]; exact fr0_at rfl
    have p2 : f 2 = I64 ((0 : Nat) : Int) := by rw [hf]; exact fr0_at rfl
    skip
    -- region 0
    repeat refine HW.seq ?_
    refine HW.region ?_
    refine HL.still (Runs.assign rfl) ?_
    intro u6 e6
    refine HL.still (Runs.assign rfl) ?_
    intro u7 e7
    refine HL.nil ?_
    -- region 1
    repeat refine HW.seq ?_
    refine HW.region ?_
    refine HL.still (Runs.move p2) ?_
    intro u10 e10
    refine HL.still (Runs.eql e10 rfl (t := true) rfl) ?_
    intro u11 e11
    refine HL.nil ?_
    repeat refine HW.seq ?_
    refine HW.yes ?_ ?_
    exact e11
    -- region 2
    repeat refine HW.seq ?_
    refine HW.region ?_
    refine HL.still (Runs.move p0) ?_
    intro u12 e12
    refine HL.still (Runs.assign rfl) ?_
    intro u6 e6
    refine HL.still (Runs.assign e12) ?_
    intro u7 e7
    refine HL.nil ?_
    refine HW.ret ?_
    exact RT.two rfl e6 e7 ⟨_, by rw [Nat.pow_zero, Nat.div_one], Own.nil _ _ _ _, Bel.refl _ _⟩
  | m + 1, h, n, hn, hm => by
    have ih := digits_ch base hb0 hb1 m h (n / base) (Nat.le_trans (Nat.div_le_self _ _) hn) (by omega)
    refine CH.of_body Tryd.func33 rfl rfl rfl ?_
    intro f hf
    have p0 : f 0 = I64 (n : Int) := by rw [hf]; exact fr0_at rfl
    have p1 : f 1 = I64 (base : Int) := by rw [hf]; exact fr0_at rfl
    have p2 : f 2 = I64 ((m + 1 : Nat) : Int) := by rw [hf]; exact fr0_at rfl
    have hdl : n / base ≤ n := Nat.div_le_self _ _
    have hd0 : (0 : Int) ≤ ((n / base : Nat) : Int) := Int.natCast_nonneg _
    have hml : n % base < base := Nat.mod_lt _ hb0
    skip
    -- region 0
    repeat refine HW.seq ?_
    refine HW.region ?_
    refine HL.still (Runs.assign rfl) ?_
    intro u6 e6
    refine HL.still (Runs.assign rfl) ?_
    intro u7 e7
    refine HL.nil ?_
    -- region 1
    repeat refine HW.seq ?_
    refine HW.region ?_
    refine HL.still (Runs.move p2) ?_
    intro u10 e10
    refine HL.still (Runs.eql e10 rfl (t := false) (by simp; omega)) ?_
    intro u11 e11
    refine HL.nil ?_
    repeat refine HW.seq ?_
    refine HW.no ?_ ?_
    exact e11
    refine HW.skip ?_
    -- region 3
    repeat refine HW.seq ?_
    refine HW.region ?_
    refine HL.still (Runs.move p0) ?_
    intro u14 e14
    refine HL.still (Runs.move p1) ?_
    intro u15 e15
    refine HL.still (Runs.quo e14 e15 (c := ((n / base : Nat) : Int)) (by omega) (by rw [Int.tdiv_eq_ediv_of_nonneg (by omega), ← Int.natCast_ediv]; exact i64w (by omega))) ?_
    intro u16 e16
    refine HL.still (Runs.move p1) ?_
    intro u17 e17
    refine HL.still (Runs.move p2) ?_
    intro u18 e18
    refine HL.still (Runs.sub e18 rfl (c := (m : Int)) (by rw [i64w (by omega)]; omega)) ?_
    intro u19 e19
    refine HL.one (HO.call Tryd.func33 bd33 nm33 (args3 e16 e17 e19) rfl ((ih).mono ?_))
    rintro _ h2 ⟨w, rfl, O2, E2⟩
    intro u20 e20
    refine HL.still (Runs.move e20) ?_
    intro u13 e13
    refine HL.still (Runs.extr e13 rfl) ?_
    intro u21 e21
    refine HL.still (Runs.extr e13 rfl) ?_
    intro u22 e22
    refine HL.still (Runs.assign e21) ?_
    intro u8 e8
    refine HL.still (Runs.assign e22) ?_
    intro u9 e9
    refine HL.nil ?_
    have z2 := E2.size
    -- region 4
    repeat refine HW.seq ?_
    refine HW.region ?_
    refine HL.still (Runs.move e8) ?_
    intro u23 e23
    refine HL.still (Runs.move p0) ?_
    intro u24 e24
    refine HL.still (Runs.move p1) ?_
    intro u25 e25
    refine HL.still (Runs.rem e24 e25 (c := ((n % base : Nat) : Int)) (by omega) (by rw [Int.tmod_eq_emod_of_nonneg (by omega), ← Int.natCast_emod])) ?_
    intro u26 e26
    refine HL.one (HO.int1 _ e26 ?_)
    intro h3 w3
    intro u27 e27
    refine HL.one (HO.append Tryd.underlying48 in3 rfl (by decide) e23 e27 (news := [Value.int .i64 ((n % base : Nat) : Int)]) (O2.nw w3) (by rfl) (fun j u hj => cellH_list w3.new (by rw [Nat.zero_add]; exact hj)) (fun u hu => by rw [List.mem_singleton.1 hu]; rfl) (by have : m + 1 ≤ 12 := hm; exact Nat.le_trans this (by decide)) (by omega) (by rw [w3.size]; omega) ?_)
    intro v5 h5 O5 G5 _
    intro u28 e28
    refine HL.still (Runs.move e9) ?_
    intro u29 e29
    refine HL.still (Runs.assign e28) ?_
    intro u6 e6
    refine HL.still (Runs.assign e29) ?_
    intro u7 e7
    refine HL.nil ?_
    have X5 : Ext h h5 := Bel.gr (E2.nw w3 (Nat.le_refl _)) G5 (Nat.le_refl _) (fun j hj => ((O2.nw w3).lt j hj).1)
    refine HW.ret ?_
    refine RT.two rfl e6 e7 ⟨v5, ?_, ?_, X5⟩
    · show Value.tuple #[v5, I64 ((n / base / base ^ m : Nat) : Int)] = _
      rw [Nat.div_div_eq_div_mul, Nat.pow_succ, Nat.mul_comm]
    · rw [dgR, List.map_append]
      exact O5
end Go.Proofs.YtfogkggkjmkdiaaDoor
