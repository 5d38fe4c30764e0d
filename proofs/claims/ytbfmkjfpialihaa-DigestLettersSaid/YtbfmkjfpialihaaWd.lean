/- sha.New, Hash.Len, Hash.Write: bytes come in, piece by piece. -/
import Derived.Test.YtbfmkjfpialihaaSp
namespace Go.Proofs.Ytbfmkjfpialihaa
set_option linter.unnecessarySimpa false
set_option linter.unusedSimpArgs false
set_option linter.unusedVariables false
open Go.RowKit
/-- The block b is a hash to which the bytes P came. -/
def HashAt (h : Heap) (b : Nat) (P : List UInt8) : Prop := ∃ hs rest, HState P hs rest ∧ h[b]? = some (.cells (hcells hs rest (P.length : Int)).toArray 53 (0, 0))
theorem HashAt.keep {h h' : Heap} {b : Nat} {P : List UInt8} (x : HashAt h b P) (k : h'[b]? = h[b]?) : HashAt h' b P := by
  obtain ⟨hs, rest, s, hb⟩ := x
  exact ⟨hs, rest, s, k.trans hb⟩
theorem HashAt.lt {h : Heap} {b : Nat} {P : List UInt8} (x : HashAt h b P) : b < h.size := by
  obtain ⟨hs, rest, s, hb⟩ := x
  exact lt_of_some hb
/-- A slice's bytes, apart from block nb. -/
def Src (h : Heap) (nb : Nat) (a : Option Addr) (xs : List UInt8) : Prop := xs = [] ∨ ∃ sb so, a = some ⟨sb, so, none⟩ ∧ sb ≠ nb ∧ ∀ j, j < xs.length → cellH h sb (so + j) = some (B8 (xs.getD j 0))
theorem Src.exb {h h' : Heap} {nb : Nat} {a : Option Addr} {xs : List UInt8} (x : Src h nb a xs) (k : ExB nb h h') : Src h' nb a xs := by
  rcases x with x | ⟨sb, so, h1, h2, h3⟩
  · exact .inl x
  · refine .inr ⟨sb, so, h1, h2, fun j hj => ?_⟩
    rw [cellH_keep (k.old sb (lt_of_cellH (h3 j hj)) h2)]
    exact h3 j hj
/-- A slice cut at its begin. -/
theorem Src.drop {h : Heap} {nb : Nat} {a a' : Option Addr} {xs : List UInt8} {cap : Nat} (x : Src h nb a xs) (k : Nat) (hc : xs.length ≤ cap) (hk : k ≤ xs.length) (ha : (if cap = k then a else a.map (·.add (k * 1))) = a') : Src h nb a' (xs.drop k) := by
  by_cases hd : xs.drop k = []
  · exact .inl hd
  · rcases x with rfl | ⟨sb, so, h1, h2, h3⟩
    · simp at hd
    · have hlt : k < xs.length := by
        rcases Nat.lt_or_ge k xs.length with h | h
        · exact h
        · exact absurd (List.drop_of_length_le h) hd
      rw [if_neg (by omega), h1] at ha
      subst ha
      refine .inr ⟨sb, so + k, by simp [addr_add], h2, fun j hj => ?_⟩
      have := h3 (k + j) (by simp at hj; omega)
      rw [Nat.add_assoc, this]
      simp [List.getD_eq_getElem?_getD]
theorem hcells_splice {hs : List (BitVec 32)} {rest ks : List UInt8} {n : Int} {i : Nat} (h8 : hs.length = 8) (h64 : rest.length = 64) (hi : i + ks.length ≤ 64) :
    (hcells hs rest n).take (8 + i) ++ ks.map B8 ++ (hcells hs rest n).drop (8 + i + (ks.map B8).length) = hcells hs (rest.take i ++ ks ++ rest.drop (i + ks.length)) n := by
  unfold hcells
  have e1 : (hs.map W32 ++ rest.map B8 ++ [I64 n]).take (8 + i) = hs.map W32 ++ (rest.take i).map B8 := by
    rw [List.append_assoc, List.take_append, List.take_of_length_le (by simp; omega), List.length_map, h8, Nat.add_sub_cancel_left, List.take_append_of_le_length (by simp; omega), List.map_take]
  have e2 : (hs.map W32 ++ rest.map B8 ++ [I64 n]).drop (8 + i + (ks.map B8).length) = (rest.drop (i + ks.length)).map B8 ++ [I64 n] := by
    rw [List.append_assoc, List.drop_append, List.drop_of_length_le (by simp; omega), List.length_map, List.length_map, h8, List.nil_append, show 8 + i + ks.length - 8 = i + ks.length by omega, List.drop_append_of_le_length (by simp; omega), List.map_drop]
  rw [e1, e2]
  simp [List.append_assoc]
theorem hcells_set_n {hs : List (BitVec 32)} {rest : List UInt8} {n : Int} (h8 : hs.length = 8) (h64 : rest.length = 64) (m : Int) : (hcells hs rest n).set 72 (I64 m) = hcells hs rest m := by
  unfold hcells
  rw [List.set_append_right _ _ (by simp; omega)]
  simp [h8, h64]
theorem run_build53 (w : World) : (Instr.build 53 #[(0, .agg (iv.map W32).toArray)]).run Try.prog w = .ok (.agg (hcells iv (List.replicate 64 0) 0).toArray) w := by kernel_rfl
theorem Runs.build53 {ρ : Operand → Value} {h : Heap} {d : Option Tmp} {ty : TypeId} {pos : String} {af : Array Edge} {gd : Option (Nat × Bool)} {x : Operand} (e : ρ x = .agg (iv.map W32).toArray) :
    Runs Try.prog ⟨d, .build 53 #[(0, x)], ty, pos, af, gd⟩ ρ h (.agg (hcells iv (List.replicate 64 0) 0).toArray) :=
  Runs.build (fun w => by
    have e : (#[(0, x)] : Array (Nat × Operand)).map (fun (i, x) => (i, ρ x)) = #[(0, .agg (iv.map W32).toArray)] := by simp [e]
    rw [e]
    exact run_build53 w)
theorem new_ch (h : Heap) : CH Try.prog 16 #[] h fun v h' => v = .pointer (some ⟨h.size, 0, none⟩) ∧ HashAt h' h.size [] ∧ Ext h h' := by
  refine CH.of_body Try.func16 rfl rfl rfl ?_
  intro f hf
  -- region 0
  repeat refine HW.seq ?_
  refine HW.region ?_
  refine HL.still (Runs.assign rfl) ?_
  intro u0 e0
  refine HL.nil ?_
  -- region 1
  repeat refine HW.seq ?_
  refine HW.region ?_
  refine HL.still (Runs.build (v := .agg (iv.map W32).toArray) (fun w => by kernel_rfl)) ?_
  intro u1 e1
  refine HL.still (Runs.build53 e1) ?_
  intro u2 e2
  refine HL.one (HO.box e2 ?_)
  intro h1 w1
  intro u3 e3
  refine HL.still (Runs.assign e3) ?_
  intro u0 e0
  refine HL.nil ?_
  refine HW.ret ?_
  exact RT.one rfl e0 ⟨rfl, ⟨iv, List.replicate 64 0, HState.start, w1.new⟩, w1.ext⟩
theorem len_ch (h : Heap) (b : Nat) (P : List UInt8) (hb : HashAt h b P) : CH Try.prog 19 #[.pointer (some ⟨b, 0, none⟩)] h fun v h' => v = I64 P.length ∧ h' = h := by
  obtain ⟨hs, rest, s, hb⟩ := hb
  refine CH.of_body Try.func19 rfl rfl rfl ?_
  intro f hf
  have p0 : f 0 = .pointer (some ⟨b, 0, none⟩) := by rw [hf]; exact fr0_at rfl
  -- region 0
  repeat refine HW.seq ?_
  refine HW.region ?_
  refine HL.still (Runs.assign rfl) ?_
  intro u2 e2
  refine HL.nil ?_
  -- region 1
  repeat refine HW.seq ?_
  refine HW.region ?_
  refine HL.still (Runs.move p0) ?_
  intro u3 e3
  refine HL.still (Runs.nilc e3) ?_
  intro u4 e4
  refine HL.still (Runs.fld (o' := 72) Try.underlying53 rfl sz3 (by decide) e4 (by rfl)) ?_
  intro u5 e5
  refine HL.still (Runs.load Try.underlying3 rfl e5 (hcell_n hb s.h8 s.len)) ?_
  intro u6 e6
  refine HL.still (Runs.assign e6) ?_
  intro u2 e2
  refine HL.nil ?_
  refine HW.ret ?_
  exact RT.one rfl e2 ⟨rfl, rfl⟩
set_option maxRecDepth 10000 in
theorem write_ch (h : Heap) (b : Nat) (P xs : List UInt8) (a : Option Addr) (cap : Nat) (hb : HashAt h b P) (hsrc : Src h b a xs) (hcap : xs.length ≤ cap) (hlen : P.length + xs.length < 4611686018427387904) :
    CH Try.prog 17 #[.pointer (some ⟨b, 0, none⟩), .slice a xs.length cap] h fun v h' => v = .tuple #[] ∧ HashAt h' b (P ++ xs) ∧ ExB b h h' := by
  refine CH.of_body Try.func17 rfl rfl rfl ?_
  intro f hf
  have p0 : f 0 = .pointer (some ⟨b, 0, none⟩) := by rw [hf]; exact fr0_at rfl
  have p1 : f 1 = .slice a xs.length cap := by rw [hf]; exact fr0_at rfl
  repeat refine HW.seq ?_
  refine HW.block ?_
  refine HW.loop (fun m f h' => ∃ c : Nat, c ≤ xs.length ∧ m = xs.length - c ∧ f 0 = .pointer (some ⟨b, 0, none⟩) ∧ (∃ (a' : Option Addr) (cap' : Nat), f 1 = .slice a' (xs.drop c).length cap' ∧ (xs.drop c).length ≤ cap' ∧ Src h' b a' (xs.drop c)) ∧ HashAt h' b (P ++ xs.take c) ∧ ExB b h h') xs.length
    ⟨0, Nat.zero_le _, rfl, p0, ⟨a, cap, p1, hcap, hsrc⟩, by simpa using hb, ⟨Nat.le_refl _, fun _ _ _ => rfl⟩⟩ ?_
  rintro m f h' ⟨c, hc, hm, f0, ⟨a', cap', f1, hcap', hsrc'⟩, hb', hE⟩
  have hd : (xs.drop c).length = xs.length - c := by simp
  by_cases hlt : c < xs.length
  · skip
    -- region 0
    repeat refine HW.seq ?_
    refine HW.region ?_
    refine HL.still (Runs.move f1) ?_
    intro u6 e6
    refine HL.still (Runs.lenSl rfl Try.underlying22 e6) ?_
    intro u7 e7
    refine HL.still (Runs.gtr e7 rfl rfl) ?_
    intro u8 e8
    refine HL.nil ?_
    repeat refine HW.seq ?_
    refine HW.yes ?_ ?_
    exact e8.trans (congrArg Value.bool (decide_eq_true (by omega)))
    refine HW.skip ?_
    repeat refine HW.seq ?_
    refine HW.block ?_
    obtain ⟨hs, rest, s, hbb⟩ := hb'
    obtain ⟨Q, hQ⟩ : ∃ Q, Q = P ++ xs.take c := ⟨_, rfl⟩
    have hQl : Q.length = P.length + c := by rw [hQ]; simp; omega
    obtain ⟨ys, hys⟩ : ∃ ys, ys = xs.drop c := ⟨_, rfl⟩
    rw [← hQ] at s hbb
    rw [← hys] at hsrc' hd hcap' f1
    have hat : (Q.length : Int) % 64 = ((Q.length % 64 : Nat) : Int) := by omega
    obtain ⟨at_, hat_⟩ : ∃ k, k = Q.length % 64 := ⟨_, rfl⟩
    have hat64 : at_ < 64 := by omega
    rw [← hat_] at hat
    rcases hsrc' with hnil | ⟨sb, so, ha', hne, hsc⟩
    · rw [hnil] at hd; simp at hd; omega
    subst ha'
    obtain ⟨ks, hks⟩ : ∃ ks, ks = ys.take (64 - at_) := ⟨_, rfl⟩
    have hkl : ks.length = Nat.min ys.length (64 - at_) := by rw [hks, List.length_take, Nat.min_comm]
    have hkl2 : ks.length = if ys.length ≤ 64 - at_ then ys.length else 64 - at_ := by rw [hkl]; rfl
    have hkpos : 0 < ks.length := by rw [hkl2]; split <;> omega
    have hkle : ks.length ≤ ys.length := by rw [hkl2]; split <;> omega
    have hk64 : at_ + ks.length ≤ 64 := by rw [hkl2]; split <;> omega
    have hkc : ∀ j v, (ks.map B8)[j]? = some v → cellH h' sb (so + j) = some v := by
      intro j v hv
      have hj : j < ks.length := by simpa using (List.getElem?_eq_some_iff.1 hv).1
      rw [hsc j (by omega)]
      rw [getD_map B8 ks j 0 hj] at hv
      rw [← hv, hks, List.getD_eq_getElem?_getD, List.getD_eq_getElem?_getD, List.getElem?_take, if_pos (by rw [hks] at hj; simp at hj; omega)]
    -- region 1
    repeat refine HW.seq ?_
    refine HW.region ?_
    refine HL.still (Runs.move f0) ?_
    intro u9 e9
    refine HL.still (Runs.nilc e9) ?_
    intro u10 e10
    refine HL.still (Runs.fld (o' := 72) Try.underlying53 rfl sz3 (by decide) e10 (by rfl)) ?_
    intro u11 e11
    refine HL.still (Runs.load Try.underlying3 rfl e11 (hcell_n hbb s.h8 s.len)) ?_
    intro u12 e12
    refine HL.still (Runs.rem e12 rfl (by decide) ((rem64 (by omega) (by decide)).trans hat)) ?_
    intro u13 e13
    refine HL.still (Runs.assign e13) ?_
    intro u4 e4
    refine HL.nil ?_
    -- region 2
    repeat refine HW.seq ?_
    refine HW.region ?_
    refine HL.still (Runs.move f0) ?_
    intro u14 e14
    refine HL.still (Runs.nilc e14) ?_
    intro u15 e15
    refine HL.still (Runs.fld (o' := 8) Try.underlying53 rfl sz51 (by decide) e15 (by rfl)) ?_
    intro u16 e16
    refine HL.still (Runs.move e4) ?_
    intro u17 e17
    refine HL.still (Runs.sliceArr Try.underlying51 sz5 e16 ⟨_, e17⟩ rfl (by omega) (Nat.le_refl _) (if_neg (by omega))) ?_
    intro u18 e18
    refine HL.still (Runs.move f1) ?_
    intro u19 e19
    refine HL.one (HO.copy Try.underlying22 sz5 e18 e19 hbb (by rw [List.length_map]; exact hkl) hkc (by rw [hcells_len, s.h8, s.len, List.length_map]; omega) (one_map B8 (fun _ => rfl) _) ?_)
    intro h1 w1
    intro u20 e20
    refine HL.still (Runs.assign e20) ?_
    intro u5 e5
    refine HL.nil ?_
    rw [List.length_map] at e20 e5
    have hbw := w1.new
    simp only [Nat.mul_one] at hbw
    rw [hcells_splice s.h8 s.len hk64] at hbw
    have hl1 := s.len
    have hr64 : (rest.take at_ ++ ks ++ rest.drop (at_ + ks.length)).length = 64 := by simp; omega
    -- region 3
    repeat refine HW.seq ?_
    refine HW.region ?_
    refine HL.still (Runs.move f1) ?_
    intro u21 e21
    refine HL.still (Runs.move e5) ?_
    intro u22 e22
    refine HL.still (Runs.sliceSl Try.underlying22 sz5 e21 ⟨_, e22⟩ rfl hkle hcap' rfl) ?_
    intro u23 e23
    refine HL.still (Runs.assign e23) ?_
    intro u1 e1
    refine HL.nil ?_
    -- region 4
    repeat refine HW.seq ?_
    refine HW.region ?_
    refine HL.still (Runs.move f0) ?_
    intro u24 e24
    refine HL.still (Runs.nilc e24) ?_
    intro u25 e25
    refine HL.still (Runs.fld (o' := 72) Try.underlying53 rfl sz3 (by decide) e25 (by rfl)) ?_
    intro u26 e26
    refine HL.still (Runs.load Try.underlying3 rfl e26 (hcell_n hbw s.h8 hr64)) ?_
    intro u27 e27
    refine HL.still (Runs.move e5) ?_
    intro u28 e28
    refine HL.still (Runs.add e27 e28 (i64w (by omega))) ?_
    intro u29 e29
    refine HL.still (Runs.nilc e24) ?_
    intro u30 e30
    refine HL.still (Runs.fld (o' := 72) Try.underlying53 rfl sz3 (by decide) e30 (by rfl)) ?_
    intro u31 e31
    refine HL.zero (HO.store (s := 1) sz3 e31 e29 rfl hbw (by rw [hcells_len, s.h8, hr64]; omega) rfl ?_)
    intro h2 w2
    refine HL.nil ?_
    have hb2 := w2.new
    rw [hcells_set_n s.h8 hr64] at hb2
    have hE2 : ExB b h h2 := (hE.trans (ExB.of_wr w1)).trans (ExB.of_wr w2)
    have hQk : Q ++ ks = P ++ xs.take (c + ks.length) := by
      have hkp : ks = ys.take ks.length := List.prefix_iff_eq_take.1 (by rw [hks]; exact List.take_prefix _ _)
      rw [hQ, List.append_assoc, List.take_add, ← hys, ← hkp]
    have hsrc2 : Src h' b (some ⟨sb, so, none⟩) ys := .inr ⟨sb, so, rfl, hne, hsc⟩
    have hdk : ys.drop ks.length = xs.drop (c + ks.length) := by rw [hys, List.drop_drop]
    have hfin : ∃ (a' : Option Addr) (cap' : Nat), u1 = .slice a' (xs.drop (c + ks.length)).length cap' ∧ (xs.drop (c + ks.length)).length ≤ cap' ∧ Src h2 b a' (xs.drop (c + ks.length)) := by
      refine ⟨_, _, by rw [e1, ← hdk, List.length_drop], by rw [← hdk, List.length_drop]; omega, ?_⟩
      rw [← hdk]
      exact (hsrc2.drop ks.length hcap' hkle rfl).exb ((ExB.of_wr w1).trans (ExB.of_wr w2))
    have hn2 : (Q.length : Int) + (ks.length : Int) = ((Q ++ ks).length : Int) := by simp
    rw [hn2] at hb2
    -- region 5
    repeat refine HW.seq ?_
    refine HW.region ?_
    refine HL.still (Runs.move e4) ?_
    intro u32 e32
    refine HL.still (Runs.move e5) ?_
    intro u33 e33
    refine HL.still (Runs.add e32 e33 (i64w (by omega))) ?_
    intro u34 e34
    refine HL.still (Runs.eql e34 rfl rfl) ?_
    intro u35 e35
    refine HL.nil ?_
    by_cases hfull : at_ + ks.length = 64
    · skip
      repeat refine HW.seq ?_
      refine HW.yes ?_ ?_
      exact e35.trans (congrArg Value.bool (by simp; omega))
      -- region 6
      repeat refine HW.seq ?_
      refine HW.region ?_
      refine HL.still (Runs.move f0) ?_
      intro u36 e36
      refine HL.one (HO.call Try.func30 bd30 nm30 (args1 e36) rfl ((mix_ch _ b hs _ _ s.h8 hr64 hb2).mono ?_))
      rintro _ h3 ⟨rfl, hb3, hE3⟩
      intro u37 e37
      refine HL.nil ?_
      obtain ⟨a2, cap2, q1, q2, q3⟩ := hfin
      refine ⟨xs.length - (c + ks.length), by omega, c + ks.length, by omega, rfl, f0, ⟨a2, cap2, q1, q2, q3.exb hE3⟩, ?_, hE2.trans hE3⟩
      rw [← hQk]
      subst hat_
      exact ⟨_, _, s.full hfull, hb3⟩
    · skip
      repeat refine HW.seq ?_
      refine HW.no ?_ ?_
      exact e35.trans (congrArg Value.bool (by simp; omega))
      refine HW.skip ?_
      obtain ⟨a2, cap2, q1, q2, q3⟩ := hfin
      refine ⟨xs.length - (c + ks.length), by omega, c + ks.length, by omega, rfl, f0, ⟨a2, cap2, q1, q2, q3⟩, ?_, hE2⟩
      rw [← hQk]
      subst hat_
      exact ⟨_, _, s.few (by omega), hb2⟩
  · skip
    -- region 0
    repeat refine HW.seq ?_
    refine HW.region ?_
    refine HL.still (Runs.move f1) ?_
    intro u6 e6
    refine HL.still (Runs.lenSl rfl Try.underlying22 e6) ?_
    intro u7 e7
    refine HL.still (Runs.gtr e7 rfl rfl) ?_
    intro u8 e8
    refine HL.nil ?_
    repeat refine HW.seq ?_
    refine HW.no ?_ ?_
    exact e8.trans (congrArg Value.bool (decide_eq_false (by omega)))
    refine HW.exitHere ?_
    have hce : c = xs.length := by omega
    subst hce
    rw [List.take_length] at hb'
    exact RT.zero rfl ⟨rfl, hb', hE⟩
end Go.Proofs.Ytbfmkjfpialihaa
