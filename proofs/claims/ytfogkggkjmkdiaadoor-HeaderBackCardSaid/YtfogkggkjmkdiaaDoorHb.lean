/- Small functions under headers: texts of fields, is all of a block 0, does a block tell its own sum? -/
import Derived.Test.YtfogkggkjmkdiaaDoorHa
namespace Go.Proofs.YtfogkggkjmkdiaaDoor
set_option linter.unnecessarySimpa false
set_option linter.unusedSimpArgs false
set_option linter.unusedVariables false
open Go.RowKit
theorem Byt.take {h : Heap} {a : Option Addr} {xs : List UInt8} (x : Byt h a xs) (n : Nat) : Byt h a (xs.take n) := by
  rcases x with rfl | ⟨sb, so, ha, hc⟩
  · exact .inl (by simp)
  · refine .inr ⟨sb, so, ha, fun j hj => ?_⟩
    have hj' : j < xs.length ∧ j < n := by rw [List.length_take] at hj; omega
    rw [hc j hj'.1]
    rw [List.getD_eq_getElem?_getD, List.getD_eq_getElem?_getD, List.getElem?_take, if_pos hj'.2]
theorem Byt.seg {h : Heap} {a a' : Option Addr} {xs : List UInt8} {cap : Nat} (x : Byt h a xs) (lo hi : Nat) (hc : xs.length ≤ cap) (h1 : lo ≤ hi) (h2 : hi ≤ xs.length) (ha : (if cap = lo then a else a.map (·.add (lo * 1))) = a') : Byt h a' (seg xs lo hi) := by
  have e : Go.Proofs.YtfogkggkjmkdiaaDoor.seg xs lo hi = (xs.drop lo).take (hi - lo) := by
    unfold Go.Proofs.YtfogkggkjmkdiaaDoor.seg
    rw [List.drop_take]
  rw [e]
  exact (x.drop lo hc (by omega) ha).take _
theorem read_n (h : Heap) (xs : List UInt8) (n : Nat) (a : Option Addr) (cap : Nat) (hn : n = xs.length) (hsrc : Byt h a xs) (hcap : xs.length ≤ cap) (hlen : xs.length < 4611686018427387904) : CH Tryd.prog 14 #[.slice a n cap] h fun v h' => v = .tuple #[I64 ((readO xs).1 : Int), .bool (readO xs).2] ∧ Ext h h' := by
  subst hn
  exact read_ch h xs a cap hsrc hcap hlen
theorem rread_n (h : Heap) (xs : List UInt8) (n : Nat) (a : Option Addr) (cap : Nat) (hn : n = xs.length) (hsrc : Byt h a xs) (hlen : xs.length < 4611686018427387904) : CH Tryd.prog 15 #[.slice a n cap] h fun v h' => v = .tuple #[I64 ((readO xs).1 : Int), .bool (readO xs).2] ∧ h' = h := by
  subst hn
  exact rread_ch h xs a cap hsrc hlen
theorem text_n (h : Heap) (xs : List UInt8) (n : Nat) (a : Option Addr) (cap : Nat) (hn : n = xs.length) (hsrc : Byt h a xs) (hlen : xs.length < 4611686018427387904) : CH Tryd.prog 36 #[.slice a n cap] h fun v h' => v = .tuple #[.string (strOf (textO xs).1), .bool (textO xs).2] ∧ h' = h := by
  subst hn
  exact text_ch h xs a cap hsrc hlen
theorem check_n (h : Heap) (xs : List UInt8) (n : Nat) (a : Option Addr) (cap : Nat) (hn : n = xs.length) (hsrc : Byt h a xs) (hlen : xs.length < 4611686018427387904) : CH Tryd.prog 18 #[.slice a n cap] h fun v h' => v = I64 (checkO xs) ∧ h' = h := by
  subst hn
  exact check_ch h xs a cap hsrc hlen
theorem rcheck_n (h : Heap) (xs : List UInt8) (n : Nat) (a : Option Addr) (cap : Nat) (hn : n = xs.length) (hsrc : Byt h a xs) (hlen : xs.length < 4611686018427387904) : CH Tryd.prog 19 #[.slice a n cap] h fun v h' => v = I64 (checkO xs) ∧ h' = h := by
  subst hn
  exact rcheck_ch h xs a cap hsrc hlen
theorem isZ_int (c : UInt8) : ((c.toNat : Int) != 0) = !isZ c := by
  unfold isZ
  by_cases hc : c = 0
  · subst hc; rfl
  · have h1 : ((c.toNat : Int) != 0) = true := bne_iff_ne.2 (u8_ne hc)
    have h2 : (c == 0) = false := beq_eq_false_iff_ne.2 hc
    rw [h1, h2]
    rfl
theorem tw_step {s : List UInt8} {k : Nat} (hk : k < s.length) (h : isZ (s.getD k 0) = false) : (s.drop k).takeWhile (fun c => !isZ c) = s.getD k 0 :: (s.drop (k + 1)).takeWhile (fun c => !isZ c) ∧ (s.drop k).dropWhile (fun c => !isZ c) = (s.drop (k + 1)).dropWhile (fun c => !isZ c) := by
  rw [drop_at hk, List.takeWhile_cons, List.dropWhile_cons, h]
  exact ⟨rfl, rfl⟩
theorem tw_stop {s : List UInt8} {k : Nat} (h : k < s.length → isZ (s.getD k 0) = true) : (s.drop k).takeWhile (fun c => !isZ c) = [] ∧ (s.drop k).dropWhile (fun c => !isZ c) = s.drop k := by
  by_cases hk : k < s.length
  · rw [drop_at hk, List.takeWhile_cons, List.dropWhile_cons, h hk]
    exact ⟨rfl, rfl⟩
  · rw [List.drop_of_length_le (by omega)]
    exact ⟨rfl, rfl⟩
/-- onionskinref06.text. -/
theorem rtext_ch (h : Heap) (xs : List UInt8) (a : Option Addr) (cap : Nat) (hsrc : Byt h a xs) (hcap : xs.length ≤ cap) (hlen : xs.length < 4611686018427387904) : CH Tryd.prog 38 #[.slice a xs.length cap] h fun v h' => v = .tuple #[.string (strOf (refT xs).1), .bool (refT xs).2] ∧ h' = h := by
  refine CH.of_body Tryd.func38 rfl rfl rfl ?_
  intro f hf
  have p0 : f 0 = .slice a xs.length cap := by rw [hf]; exact fr0_at rfl
  -- region 0
  repeat refine HW.seq ?_
  refine HW.region ?_
  refine HL.still (Runs.assign rfl) ?_
  intro u2 e2
  refine HL.still (Runs.assign rfl) ?_
  intro u3 e3
  refine HL.nil ?_
  -- region 1
  repeat refine HW.seq ?_
  refine HW.region ?_
  refine HL.still (Runs.assign rfl) ?_
  intro u4 e4
  refine HL.nil ?_
  repeat refine HW.seq ?_
  refine HW.block ?_
  refine HW.loop (fun m f h' => ∃ k : Nat, k ≤ xs.length ∧ m = xs.length - k ∧ f 4 = I64 k ∧ f 0 = .slice a xs.length cap ∧ xs.takeWhile (fun c => !isZ c) = xs.take k ++ (xs.drop k).takeWhile (fun c => !isZ c) ∧ xs.dropWhile (fun c => !isZ c) = (xs.drop k).dropWhile (fun c => !isZ c) ∧ h' = h) xs.length
    ⟨0, Nat.zero_le _, rfl, e4, p0, rfl, rfl, rfl⟩ ?_
  clear e2 e3 e4
  rintro m f h' ⟨k, hk, hm, f4, f0, htw, hdw, hh'⟩
  by_cases hgo : k < xs.length ∧ isZ (xs.getD k 0) = false
  · obtain ⟨hlt, hz⟩ := hgo
    obtain ⟨sb, so, ha, hc⟩ := hsrc.at hlt
    rw [← hh'] at hc
    have f0' := f0
    rw [ha] at f0'
    -- region 2
    repeat refine HW.seq ?_
    refine HW.region ?_
    refine HL.still (Runs.move f4) ?_
    intro u6 e6
    refine HL.still (Runs.move f0') ?_
    intro u7 e7
    refine HL.still (Runs.lenSl rfl Tryd.underlying22 e7) ?_
    intro u8 e8
    refine HL.still (Runs.lss e6 e8 (t := true) (decide_eq_true (by omega))) ?_
    intro u9 e9
    refine HL.still (Runs.move e9) ?_
    intro u10 e10
    refine HL.stillG rfl rfl e10 (Runs.move f0') ?_
    intro u11 e11
    refine HL.stillG rfl rfl e10 (Runs.move f4) ?_
    intro u12 e12
    refine HL.stillG rfl rfl e10 (Runs.ixSl (o' := so + k) Tryd.underlying22 sz5 e11 e12 (by omega) (by omega) (by omega)) ?_
    intro u13 e13
    refine HL.stillG rfl rfl e10 (Runs.load Tryd.underlying5 rfl e13 hc) ?_
    intro u14 e14
    refine HL.stillG rfl rfl e10 (Runs.neq e14 rfl (t := true) ((isZ_int _).trans (by rw [hz]; rfl))) ?_
    intro u15 e15
    refine HL.still (Runs.pick e10 e15) ?_
    intro u16 e16
    refine HL.nil ?_
    repeat refine HW.seq ?_
    refine HW.yes ?_ ?_
    exact e16
    refine HW.skip ?_
    repeat refine HW.seq ?_
    refine HW.block ?_
    -- region 3
    repeat refine HW.seq ?_
    refine HW.region ?_
    refine HL.still (Runs.move f4) ?_
    intro u17 e17
    refine HL.still (Runs.add e17 rfl (i64w (by omega))) ?_
    intro u18 e18
    refine HL.still (Runs.assign e18) ?_
    intro u4 e4
    refine HL.nil ?_
    obtain ⟨q1, q2⟩ := tw_step hlt hz
    refine ⟨xs.length - (k + 1), by omega, k + 1, by omega, rfl, e4, f0, ?_, ?_, hh'⟩
    · rw [htw, q1, List.take_add_one, get_of_lt hlt]
      simp
    · rw [hdw, q2]
  have hstop : k < xs.length → isZ (xs.getD k 0) = true := fun hk => by
    cases e : isZ (xs.getD k 0) with
    | true => rfl
    | false => exact absurd ⟨hk, e⟩ hgo
  obtain ⟨q1, q2⟩ := tw_stop hstop
  rw [q1, List.append_nil] at htw
  rw [q2] at hdw
  repeat refine HW.seq ?_
  refine HW.mono (N := fun f' g => g = h ∧ f' 16 = .bool false ∧ f' 4 = I64 k ∧ f' 0 = .slice a xs.length cap) ?_ ?_ (fun _ _ _ h => h) (fun _ _ h => h)
  · by_cases hlt : k < xs.length
    · have hz := hstop hlt
      obtain ⟨sb, so, ha, hc⟩ := hsrc.at hlt
      rw [← hh'] at hc
      have f0' := f0
      rw [ha] at f0'
      -- region 2
      repeat refine HW.seq ?_
      refine HW.region ?_
      refine HL.still (Runs.move f4) ?_
      intro u6 e6
      refine HL.still (Runs.move f0') ?_
      intro u7 e7
      refine HL.still (Runs.lenSl rfl Tryd.underlying22 e7) ?_
      intro u8 e8
      refine HL.still (Runs.lss e6 e8 (t := true) (decide_eq_true (by omega))) ?_
      intro u9 e9
      refine HL.still (Runs.move e9) ?_
      intro u10 e10
      refine HL.stillG rfl rfl e10 (Runs.move f0') ?_
      intro u11 e11
      refine HL.stillG rfl rfl e10 (Runs.move f4) ?_
      intro u12 e12
      refine HL.stillG rfl rfl e10 (Runs.ixSl (o' := so + k) Tryd.underlying22 sz5 e11 e12 (by omega) (by omega) (by omega)) ?_
      intro u13 e13
      refine HL.stillG rfl rfl e10 (Runs.load Tryd.underlying5 rfl e13 hc) ?_
      intro u14 e14
      refine HL.stillG rfl rfl e10 (Runs.neq e14 rfl (t := false) ((isZ_int _).trans (by rw [hz]; rfl))) ?_
      intro u15 e15
      refine HL.still (Runs.pick e10 e15) ?_
      intro u16 e16
      refine HL.nil ?_
      exact ⟨hh', e16, f4, f0⟩
    · skip
      -- region 2
      repeat refine HW.seq ?_
      refine HW.region ?_
      refine HL.still (Runs.move f4) ?_
      intro u6 e6
      refine HL.still (Runs.move f0) ?_
      intro u7 e7
      refine HL.still (Runs.lenSl rfl Tryd.underlying22 e7) ?_
      intro u8 e8
      refine HL.still (Runs.lss e6 e8 (t := false) (decide_eq_false (by omega))) ?_
      intro u9 e9
      refine HL.still (Runs.move e9) ?_
      intro u10 e10
      refine HL.skipG rfl rfl e10 ?_
      intro u11 e11
      refine HL.skipG rfl rfl e10 ?_
      intro u12 e12
      refine HL.skipG rfl rfl e10 ?_
      intro u13 e13
      refine HL.skipG rfl rfl e10 ?_
      intro u14 e14
      refine HL.skipG rfl rfl e10 ?_
      intro u15 e15
      refine HL.still (Runs.pick e10 rfl) ?_
      intro u16 e16
      refine HL.nil ?_
      exact ⟨hh', e16, f4, f0⟩
  clear hh' f0 f4
  rintro f g ⟨hg, f16, f4, f0⟩
  repeat refine HW.seq ?_
  refine HW.no f16 ?_
  refine HW.exitHere ?_
  -- region 4
  repeat refine HW.seq ?_
  refine HW.region ?_
  refine HL.still (Runs.move f4) ?_
  intro u19 e19
  refine HL.still (Runs.assign e19) ?_
  intro u5 e5
  refine HL.nil ?_
  repeat refine HW.seq ?_
  refine HW.block ?_
  refine HW.loop (fun m f h' => ∃ j : Nat, j ≤ xs.length ∧ m = xs.length - j ∧ f 5 = I64 j ∧ f 4 = I64 k ∧ f 0 = .slice a xs.length cap ∧ (xs.drop k).all isZ = (xs.drop j).all isZ ∧ h' = h) (xs.length - k)
    ⟨k, hk, rfl, e5, f4, f0, rfl, hg⟩ ?_
  clear e5 hg f0 f4 f16
  rintro m f h' ⟨j, hj, hm', f5, f4, f0, hall, hh'⟩
  by_cases hlt : j < xs.length
  · obtain ⟨sb, so, ha, hc⟩ := hsrc.at hlt
    rw [← hh'] at hc
    have f0' := f0
    rw [ha] at f0'
    rw [drop_at hlt, List.all_cons] at hall
    -- region 5
    repeat refine HW.seq ?_
    refine HW.region ?_
    refine HL.still (Runs.move f5) ?_
    intro u20 e20
    refine HL.still (Runs.move f0') ?_
    intro u21 e21
    refine HL.still (Runs.lenSl rfl Tryd.underlying22 e21) ?_
    intro u22 e22
    refine HL.still (Runs.lss e20 e22 rfl) ?_
    intro u23 e23
    refine HL.nil ?_
    repeat refine HW.seq ?_
    refine HW.yes ?_ ?_
    exact e23.trans (congrArg Value.bool (decide_eq_true (by omega)))
    refine HW.skip ?_
    repeat refine HW.seq ?_
    refine HW.block ?_
    cases hz : isZ (xs.getD j 0) with
    | true =>
      skip
      -- region 7
      repeat refine HW.seq ?_
      refine HW.region ?_
      refine HL.still (Runs.move f0') ?_
      intro u26 e26
      refine HL.still (Runs.move f5) ?_
      intro u27 e27
      refine HL.still (Runs.ixSl (o' := so + j) Tryd.underlying22 sz5 e26 e27 (by omega) (by omega) (by omega)) ?_
      intro u28 e28
      refine HL.still (Runs.load Tryd.underlying5 rfl e28 hc) ?_
      intro u29 e29
      refine HL.still (Runs.neq e29 rfl (t := false) ((isZ_int _).trans (by rw [hz]; rfl))) ?_
      intro u30 e30
      refine HL.nil ?_
      repeat refine HW.seq ?_
      refine HW.no ?_ ?_
      exact e30
      refine HW.skip ?_
      -- region 6
      repeat refine HW.seq ?_
      refine HW.region ?_
      refine HL.still (Runs.move f5) ?_
      intro u24 e24
      refine HL.still (Runs.add e24 rfl (i64w (by omega))) ?_
      intro u25 e25
      refine HL.still (Runs.assign e25) ?_
      intro u5 e5
      refine HL.nil ?_
      refine ⟨xs.length - (j + 1), by omega, j + 1, by omega, rfl, e5, f4, f0, ?_, hh'⟩
      rw [hall, hz, Bool.true_and]
    | false =>
      skip
      -- region 7
      repeat refine HW.seq ?_
      refine HW.region ?_
      refine HL.still (Runs.move f0') ?_
      intro u26 e26
      refine HL.still (Runs.move f5) ?_
      intro u27 e27
      refine HL.still (Runs.ixSl (o' := so + j) Tryd.underlying22 sz5 e26 e27 (by omega) (by omega) (by omega)) ?_
      intro u28 e28
      refine HL.still (Runs.load Tryd.underlying5 rfl e28 hc) ?_
      intro u29 e29
      refine HL.still (Runs.neq e29 rfl (t := true) ((isZ_int _).trans (by rw [hz]; rfl))) ?_
      intro u30 e30
      refine HL.nil ?_
      repeat refine HW.seq ?_
      refine HW.yes ?_ ?_
      exact e30
      -- region 8
      repeat refine HW.seq ?_
      refine HW.region ?_
      refine HL.still (Runs.assign rfl) ?_
      intro u2 e2
      refine HL.still (Runs.assign rfl) ?_
      intro u3 e3
      refine HL.nil ?_
      refine HW.ret ?_
      refine RT.two rfl e2 e3 ⟨?_, hh'⟩
      unfold refT
      rw [hdw, hall, hz, if_neg (by simp)]
      rfl
  · rw [(List.drop_of_length_le (by omega) : xs.drop j = [])] at hall
    -- region 5
    repeat refine HW.seq ?_
    refine HW.region ?_
    refine HL.still (Runs.move f5) ?_
    intro u20 e20
    refine HL.still (Runs.move f0) ?_
    intro u21 e21
    refine HL.still (Runs.lenSl rfl Tryd.underlying22 e21) ?_
    intro u22 e22
    refine HL.still (Runs.lss e20 e22 rfl) ?_
    intro u23 e23
    refine HL.nil ?_
    repeat refine HW.seq ?_
    refine HW.no ?_ ?_
    exact e23.trans (congrArg Value.bool (decide_eq_false (by omega)))
    refine HW.exitHere ?_
    -- region 9
    repeat refine HW.seq ?_
    refine HW.region ?_
    refine HL.still (Runs.move f0) ?_
    intro u31 e31
    refine HL.still (Runs.move f4) ?_
    intro u32 e32
    refine HL.still (Runs.sliceSl Tryd.underlying22 sz5 e31 (lo := 0) (hi := k) rfl ⟨_, e32⟩ (Nat.zero_le _) (by omega) rfl) ?_
    intro u33 e33
    refine HL.still (Runs.toStrB Tryd.underlying22 Tryd.underlying5 Tryd.underlying9 e33 (by rw [List.length_take]; omega) (show Byt _ _ (xs.take k) by rw [hh']; have hx := hsrc.take k; split; exact hx; cases a with | none => exact hx | some a => simpa [Addr.add] using hx)) ?_
    intro u34 e34
    refine HL.still (Runs.assign e34) ?_
    intro u2 e2
    refine HL.still (Runs.assign rfl) ?_
    intro u3 e3
    refine HL.nil ?_
    refine HW.ret ?_
    refine RT.two rfl e2 e3 ⟨?_, hh'⟩
    unfold refT
    rw [hdw, hall, if_pos List.all_nil, htw]
theorem rtext_n (h : Heap) (xs : List UInt8) (n : Nat) (a : Option Addr) (cap : Nat) (hn : n = xs.length) (hsrc : Byt h a xs) (hcap : xs.length ≤ cap) (hlen : xs.length < 4611686018427387904) : CH Tryd.prog 38 #[.slice a n cap] h fun v h' => v = .tuple #[.string (strOf (refT xs).1), .bool (refT xs).2] ∧ h' = h := by
  subst hn
  exact rtext_ch h xs a cap hsrc hcap hlen
/-! ### Empty -/
theorem ne0_ch (h : Heap) (c : UInt8) : CH Tryd.prog 40 #[B8 c] h fun v h' => v = .bool (!isZ c) ∧ h' = h := by
  refine CH.of_body Tryd.func40 rfl rfl rfl ?_
  intro f hf
  have p0 : f 0 = B8 c := by rw [hf]; exact fr0_at rfl
  -- region 0
  repeat refine HW.seq ?_
  refine HW.region ?_
  refine HL.still (Runs.assign rfl) ?_
  intro u2 e2
  refine HL.nil ?_
  -- region 1
  repeat refine HW.seq ?_
  refine HW.region ?_
  refine HL.still (Runs.move p0) ?_
  intro u3 e3
  refine HL.still (Runs.neq e3 rfl (isZ_int c)) ?_
  intro u4 e4
  refine HL.still (Runs.assign e4) ?_
  intro u2 e2
  refine HL.nil ?_
  refine HW.ret ?_
  exact RT.one rfl e2 ⟨rfl, rfl⟩
theorem idxf_ch (h : Heap) (xs : List UInt8) (a : Option Addr) (cap : Nat) (hsrc : Byt h a xs) (hlen : xs.length < 4611686018427387904) : CH Tryd.prog 53 #[.slice a xs.length cap, .func (.func 40) #[] #[]] h fun v h' => (∃ r : Int, v = I64 r ∧ decide (r ≥ 0) = !xs.all isZ) ∧ h' = h := by
  refine CH.of_body Tryd.func53 rfl rfl rfl ?_
  intro f hf
  have p0 : f 0 = .slice a xs.length cap := by rw [hf]; exact fr0_at rfl
  have p1 : f 1 = .func (.func 40) #[] #[] := by rw [hf]; exact fr0_at rfl
  -- region 0
  repeat refine HW.seq ?_
  refine HW.region ?_
  refine HL.still (Runs.assign rfl) ?_
  intro u4 e4
  refine HL.nil ?_
  -- region 1
  repeat refine HW.seq ?_
  refine HW.region ?_
  refine HL.still (Runs.move p0) ?_
  intro u6 e6
  refine HL.still (Runs.lenSl rfl Tryd.underlying22 e6) ?_
  intro u7 e7
  refine HL.still (Runs.move rfl) ?_
  intro u8 e8
  refine HL.nil ?_
  repeat refine HW.seq ?_
  refine HW.block ?_
  refine HW.loop (fun m f h' => ∃ k : Nat, k ≤ xs.length ∧ m = xs.length - k ∧ f 8 = I64 k ∧ f 7 = I64 xs.length ∧ f 0 = .slice a xs.length cap ∧ f 1 = .func (.func 40) #[] #[] ∧ xs.all isZ = (xs.drop k).all isZ ∧ h' = h) xs.length
    ⟨0, Nat.zero_le _, rfl, e8, e7, p0, p1, rfl, rfl⟩ ?_
  clear e4 e7 e8
  rintro m f h' ⟨k, hk, hm, f8, f7, f0, f1, hall, hh'⟩
  by_cases hlt : k < xs.length
  · obtain ⟨sb, so, ha, hc⟩ := hsrc.at hlt
    rw [← hh'] at hc
    have f0' := f0
    rw [ha] at f0'
    rw [drop_at hlt, List.all_cons] at hall
    -- region 2
    repeat refine HW.seq ?_
    refine HW.region ?_
    refine HL.still (Runs.lss f8 f7 rfl) ?_
    intro u9 e9
    refine HL.nil ?_
    repeat refine HW.seq ?_
    refine HW.yes ?_ ?_
    exact e9.trans (congrArg Value.bool (decide_eq_true (by omega)))
    refine HW.skip ?_
    repeat refine HW.seq ?_
    refine HW.block ?_
    -- region 3
    repeat refine HW.seq ?_
    refine HW.region ?_
    refine HL.still (Runs.move f8) ?_
    intro u10 e10
    refine HL.still (Runs.assign e10) ?_
    intro u5 e5
    refine HL.nil ?_
    -- region 4
    repeat refine HW.seq ?_
    refine HW.region ?_
    refine HL.still (Runs.move f1) ?_
    intro u11 e11
    refine HL.still (Runs.move f0') ?_
    intro u12 e12
    refine HL.still (Runs.move e5) ?_
    intro u13 e13
    refine HL.still (Runs.ixSl (o' := so + k) Tryd.underlying22 sz5 e12 e13 (by omega) (by omega) (by omega)) ?_
    intro u14 e14
    refine HL.still (Runs.load Tryd.underlying5 rfl e14 hc) ?_
    intro u15 e15
    refine HL.one (HO.callV Tryd.func40 bd40 nm40 (args1 e15) e11 ((ne0_ch h' (xs.getD k 0)).mono ?_))
    rintro _ h2 ⟨rfl, hh2⟩
    intro u16 e16
    refine HL.nil ?_
    cases hz : isZ (xs.getD k 0) with
    | true =>
      rw [hz] at e16
      repeat refine HW.seq ?_
      refine HW.no ?_ ?_
      exact e16
      refine HW.skip ?_
      -- region 6
      repeat refine HW.seq ?_
      refine HW.region ?_
      refine HL.still (Runs.add f8 rfl (i64w (by omega))) ?_
      intro u18 e18
      refine HL.still (Runs.move e18) ?_
      intro u8 e8
      refine HL.nil ?_
      refine ⟨xs.length - (k + 1), by omega, k + 1, by omega, rfl, e8, f7, f0, f1, ?_, by rw [hh2, hh']⟩
      rw [hall, hz, Bool.true_and]
    | false =>
      rw [hz] at e16
      repeat refine HW.seq ?_
      refine HW.yes ?_ ?_
      exact e16
      -- region 5
      repeat refine HW.seq ?_
      refine HW.region ?_
      refine HL.still (Runs.move e5) ?_
      intro u17 e17
      refine HL.still (Runs.assign e17) ?_
      intro u4 e4
      refine HL.nil ?_
      refine HW.ret ?_
      refine RT.one rfl e4 ⟨⟨_, rfl, ?_⟩, by rw [hh2, hh']⟩
      rw [hall, hz]
      exact decide_eq_true (by omega)
  · rw [List.drop_of_length_le (by omega)] at hall
    -- region 2
    repeat refine HW.seq ?_
    refine HW.region ?_
    refine HL.still (Runs.lss f8 f7 rfl) ?_
    intro u9 e9
    refine HL.nil ?_
    repeat refine HW.seq ?_
    refine HW.no ?_ ?_
    exact e9.trans (congrArg Value.bool (decide_eq_false (by omega)))
    refine HW.exitHere ?_
    -- region 7
    repeat refine HW.seq ?_
    refine HW.region ?_
    refine HL.still (Runs.assign rfl) ?_
    intro u4 e4
    refine HL.nil ?_
    refine HW.ret ?_
    refine RT.one rfl e4 ⟨⟨_, rfl, ?_⟩, hh'⟩
    rw [hall]
    rfl
theorem contf_ch (h : Heap) (xs : List UInt8) (a : Option Addr) (cap : Nat) (hsrc : Byt h a xs) (hlen : xs.length < 4611686018427387904) : CH Tryd.prog 39 #[.slice a xs.length cap, .func (.func 40) #[] #[]] h fun v h' => v = .bool (!xs.all isZ) ∧ h' = h := by
  refine CH.of_body Tryd.func39 rfl rfl rfl ?_
  intro f hf
  have p0 : f 0 = .slice a xs.length cap := by rw [hf]; exact fr0_at rfl
  have p1 : f 1 = .func (.func 40) #[] #[] := by rw [hf]; exact fr0_at rfl
  -- region 0
  repeat refine HW.seq ?_
  refine HW.region ?_
  refine HL.still (Runs.assign rfl) ?_
  intro u4 e4
  refine HL.nil ?_
  -- region 1
  repeat refine HW.seq ?_
  refine HW.region ?_
  refine HL.still (Runs.move p0) ?_
  intro u5 e5
  refine HL.still (Runs.move p1) ?_
  intro u6 e6
  refine HL.one (HO.call Tryd.func53 bd53 nm53 (args2 e5 e6) rfl ((idxf_ch h xs a cap hsrc hlen).mono ?_))
  rintro _ h1 ⟨⟨r, rfl, hr⟩, hh1⟩
  intro u7 e7
  refine HL.still (Runs.geq e7 rfl hr) ?_
  intro u8 e8
  refine HL.still (Runs.assign e8) ?_
  intro u4 e4
  refine HL.nil ?_
  refine HW.ret ?_
  exact RT.one rfl e4 ⟨rfl, hh1⟩
def emptyO (xs : List UInt8) : Bool := decide (xs.length = 512) && xs.all isZ
theorem len512 (n : Nat) : ((n : Int) == 512) = decide (n = 512) := by
  by_cases e : n = 512
  · subst e; rfl
  · rw [decide_eq_false e, beq_eq_false_iff_ne]
    omega
theorem empty_ch (h : Heap) (xs : List UInt8) (a : Option Addr) (cap : Nat) (hsrc : Byt h a xs) (hlen : xs.length < 4611686018427387904) : CH Tryd.prog 24 #[.slice a xs.length cap] h fun v h' => v = .bool (emptyO xs) ∧ h' = h := by
  refine CH.of_body Tryd.func24 rfl rfl rfl ?_
  intro f hf
  have p0 : f 0 = .slice a xs.length cap := by rw [hf]; exact fr0_at rfl
  -- region 0
  repeat refine HW.seq ?_
  refine HW.region ?_
  refine HL.still (Runs.assign rfl) ?_
  intro u2 e2
  refine HL.nil ?_
  by_cases hl : xs.length = 512
  · skip
    -- region 1
    repeat refine HW.seq ?_
    refine HW.region ?_
    refine HL.still (Runs.move p0) ?_
    intro u3 e3
    refine HL.still (Runs.lenSl rfl Tryd.underlying22 e3) ?_
    intro u4 e4
    refine HL.still (Runs.eql e4 rfl (t := true) (by rw [hl]; rfl)) ?_
    intro u5 e5
    refine HL.still (Runs.move e5) ?_
    intro u6 e6
    refine HL.stillG rfl rfl e6 (Runs.move p0) ?_
    intro u7 e7
    refine HL.oneG rfl rfl e6 (HO.call Tryd.func39 bd39 nm39 (args2 e7 rfl) rfl ((contf_ch h xs a cap hsrc hlen).mono ?_))
    rintro _ h1 ⟨rfl, hh1⟩
    intro u8 e8
    refine HL.stillG rfl rfl e6 (Runs.notb e8 (u := xs.all isZ) (by simp)) ?_
    intro u9 e9
    refine HL.still (Runs.pick e6 e9) ?_
    intro u10 e10
    refine HL.still (Runs.assign e10) ?_
    intro u2 e2
    refine HL.nil ?_
    refine HW.ret ?_
    refine RT.one rfl e2 ⟨?_, hh1⟩
    unfold emptyO
    rw [decide_eq_true hl, Bool.true_and]
  · skip
    -- region 1
    repeat refine HW.seq ?_
    refine HW.region ?_
    refine HL.still (Runs.move p0) ?_
    intro u3 e3
    refine HL.still (Runs.lenSl rfl Tryd.underlying22 e3) ?_
    intro u4 e4
    refine HL.still (Runs.eql e4 rfl (t := false) (by rw [len512]; exact decide_eq_false hl)) ?_
    intro u5 e5
    refine HL.still (Runs.move e5) ?_
    intro u6 e6
    refine HL.skipG rfl rfl e6 ?_
    intro u7 e7
    refine HL.skipG rfl rfl e6 ?_
    intro u8 e8
    refine HL.skipG rfl rfl e6 ?_
    intro u9 e9
    refine HL.still (Runs.pick e6 rfl) ?_
    intro u10 e10
    refine HL.still (Runs.assign e10) ?_
    intro u2 e2
    refine HL.nil ?_
    refine HW.ret ?_
    refine RT.one rfl e2 ⟨?_, rfl⟩
    unfold emptyO
    rw [decide_eq_false hl, Bool.false_and]
    rfl
theorem rempty_ch (h : Heap) (xs : List UInt8) (a : Option Addr) (cap : Nat) (hsrc : Byt h a xs) (hlen : xs.length < 4611686018427387904) : CH Tryd.prog 25 #[.slice a xs.length cap] h fun v h' => v = .bool (emptyO xs) ∧ h' = h := by
  refine CH.of_body Tryd.func25 rfl rfl rfl ?_
  intro f hf
  have p0 : f 0 = .slice a xs.length cap := by rw [hf]; exact fr0_at rfl
  -- region 0
  repeat refine HW.seq ?_
  refine HW.region ?_
  refine HL.still (Runs.assign rfl) ?_
  intro u2 e2
  refine HL.nil ?_
  -- region 1
  repeat refine HW.seq ?_
  refine HW.region ?_
  refine HL.still (Runs.assign rfl) ?_
  intro u3 e3
  refine HL.nil ?_
  repeat refine HW.seq ?_
  refine HW.block ?_
  refine HW.loop (fun m f h' => ∃ k : Nat, k ≤ xs.length ∧ m = xs.length - k ∧ f 3 = I64 k ∧ f 0 = .slice a xs.length cap ∧ xs.all isZ = (xs.drop k).all isZ ∧ h' = h) xs.length
    ⟨0, Nat.zero_le _, rfl, e3, p0, rfl, rfl⟩ ?_
  clear e2 e3
  rintro m f h' ⟨k, hk, hm, f3, f0, hall, hh'⟩
  by_cases hlt : k < xs.length
  · obtain ⟨sb, so, ha, hc⟩ := hsrc.at hlt
    rw [← hh'] at hc
    have f0' := f0
    rw [ha] at f0'
    rw [drop_at hlt, List.all_cons] at hall
    -- region 2
    repeat refine HW.seq ?_
    refine HW.region ?_
    refine HL.still (Runs.move f3) ?_
    intro u4 e4
    refine HL.still (Runs.move f0') ?_
    intro u5 e5
    refine HL.still (Runs.lenSl rfl Tryd.underlying22 e5) ?_
    intro u6 e6
    refine HL.still (Runs.lss e4 e6 rfl) ?_
    intro u7 e7
    refine HL.nil ?_
    repeat refine HW.seq ?_
    refine HW.yes ?_ ?_
    exact e7.trans (congrArg Value.bool (decide_eq_true (by omega)))
    refine HW.skip ?_
    repeat refine HW.seq ?_
    refine HW.block ?_
    cases hz : isZ (xs.getD k 0) with
    | true =>
      skip
      -- region 4
      repeat refine HW.seq ?_
      refine HW.region ?_
      refine HL.still (Runs.move f0') ?_
      intro u10 e10
      refine HL.still (Runs.move f3) ?_
      intro u11 e11
      refine HL.still (Runs.ixSl (o' := so + k) Tryd.underlying22 sz5 e10 e11 (by omega) (by omega) (by omega)) ?_
      intro u12 e12
      refine HL.still (Runs.load Tryd.underlying5 rfl e12 hc) ?_
      intro u13 e13
      refine HL.still (Runs.neq e13 rfl (t := false) ((isZ_int _).trans (by rw [hz]; rfl))) ?_
      intro u14 e14
      refine HL.nil ?_
      repeat refine HW.seq ?_
      refine HW.no ?_ ?_
      exact e14
      refine HW.skip ?_
      -- region 3
      repeat refine HW.seq ?_
      refine HW.region ?_
      refine HL.still (Runs.move f3) ?_
      intro u8 e8
      refine HL.still (Runs.add e8 rfl (i64w (by omega))) ?_
      intro u9 e9
      refine HL.still (Runs.assign e9) ?_
      intro u3 e3
      refine HL.nil ?_
      refine ⟨xs.length - (k + 1), by omega, k + 1, by omega, rfl, e3, f0, ?_, hh'⟩
      rw [hall, hz, Bool.true_and]
    | false =>
      skip
      -- region 4
      repeat refine HW.seq ?_
      refine HW.region ?_
      refine HL.still (Runs.move f0') ?_
      intro u10 e10
      refine HL.still (Runs.move f3) ?_
      intro u11 e11
      refine HL.still (Runs.ixSl (o' := so + k) Tryd.underlying22 sz5 e10 e11 (by omega) (by omega) (by omega)) ?_
      intro u12 e12
      refine HL.still (Runs.load Tryd.underlying5 rfl e12 hc) ?_
      intro u13 e13
      refine HL.still (Runs.neq e13 rfl (t := true) ((isZ_int _).trans (by rw [hz]; rfl))) ?_
      intro u14 e14
      refine HL.nil ?_
      repeat refine HW.seq ?_
      refine HW.yes ?_ ?_
      exact e14
      -- region 5
      repeat refine HW.seq ?_
      refine HW.region ?_
      refine HL.still (Runs.assign rfl) ?_
      intro u2 e2
      refine HL.nil ?_
      refine HW.ret ?_
      refine RT.one rfl e2 ⟨?_, hh'⟩
      unfold emptyO
      rw [hall, hz, Bool.false_and, Bool.and_false]
  · rw [List.drop_of_length_le (by omega)] at hall
    -- region 2
    repeat refine HW.seq ?_
    refine HW.region ?_
    refine HL.still (Runs.move f3) ?_
    intro u4 e4
    refine HL.still (Runs.move f0) ?_
    intro u5 e5
    refine HL.still (Runs.lenSl rfl Tryd.underlying22 e5) ?_
    intro u6 e6
    refine HL.still (Runs.lss e4 e6 rfl) ?_
    intro u7 e7
    refine HL.nil ?_
    repeat refine HW.seq ?_
    refine HW.no ?_ ?_
    exact e7.trans (congrArg Value.bool (decide_eq_false (by omega)))
    refine HW.exitHere ?_
    -- region 6
    repeat refine HW.seq ?_
    refine HW.region ?_
    refine HL.still (Runs.move f0) ?_
    intro u15 e15
    refine HL.still (Runs.lenSl rfl Tryd.underlying22 e15) ?_
    intro u16 e16
    refine HL.still (Runs.eql e16 rfl (len512 _)) ?_
    intro u17 e17
    refine HL.still (Runs.assign e17) ?_
    intro u2 e2
    refine HL.nil ?_
    refine HW.ret ?_
    refine RT.one rfl e2 ⟨?_, hh'⟩
    unfold emptyO
    rw [hall]
    simp
/-- header.sums. -/
theorem sums_ch (h : Heap) (xs : List UInt8) (a : Option Addr) (cap : Nat) (hsrc : Byt h a xs) (hcap : xs.length ≤ cap) (hl : xs.length = 512) : CH Tryd.prog 34 #[.slice a xs.length cap] h fun v h' => v = .bool (sumsO xs) ∧ Ext h h' := by
  refine CH.of_body Tryd.func34 rfl rfl rfl ?_
  intro f hf
  have p0 : f 0 = .slice a xs.length cap := by rw [hf]; exact fr0_at rfl
  -- region 0
  repeat refine HW.seq ?_
  refine HW.region ?_
  refine HL.still (Runs.assign rfl) ?_
  intro u2 e2
  refine HL.nil ?_
  have hsl := seg_len xs 148 156 (by omega)
  -- region 1
  repeat refine HW.seq ?_
  refine HW.region ?_
  refine HL.still (Runs.move p0) ?_
  intro u6 e6
  refine HL.still (Runs.sliceSl Tryd.underlying22 sz5 e6 (lo := 148) (hi := 156) ⟨_, rfl⟩ ⟨_, rfl⟩ (by omega) (by omega) rfl) ?_
  intro u7 e7
  refine HL.one (HO.call Tryd.func14 bd14 nm14 (args1 e7) rfl ((read_n _ (seg xs 148 156) _ _ _ hsl.symm (hsrc.seg 148 156 hcap (by omega) (by omega) rfl) (by omega) (by omega)).mono ?_))
  rintro _ h1 ⟨rfl, E1⟩
  intro u8 e8
  refine HL.still (Runs.move e8) ?_
  intro u5 e5
  refine HL.still (Runs.extr e5 rfl) ?_
  intro u9 e9
  refine HL.still (Runs.extr e5 rfl) ?_
  intro u10 e10
  refine HL.still (Runs.assign e9) ?_
  intro u3 e3
  refine HL.still (Runs.assign e10) ?_
  intro u4 e4
  refine HL.nil ?_
  have g4 : u4 = .bool (readO (seg xs 148 156)).2 := e4
  cases hb : (readO (seg xs 148 156)).2 with
  | true =>
    rw [hb] at g4
    -- region 2
    repeat refine HW.seq ?_
    refine HW.region ?_
    refine HL.still (Runs.move g4) ?_
    intro u11 e11
    refine HL.still (Runs.move e11) ?_
    intro u12 e12
    refine HL.stillG rfl rfl e12 (Runs.move e3) ?_
    intro u13 e13
    refine HL.stillG rfl rfl e12 (Runs.move p0) ?_
    intro u14 e14
    refine HL.oneG rfl rfl e12 (HO.call Tryd.func18 bd18 nm18 (args1 e14) rfl ((check_ch h1 xs a cap (hsrc.ext E1) (by omega)).mono ?_))
    rintro _ h2 ⟨rfl, hh2⟩
    intro u15 e15
    refine HL.stillG rfl rfl e12 (Runs.eql e13 e15 rfl) ?_
    intro u16 e16
    refine HL.still (Runs.pick e12 e16) ?_
    intro u17 e17
    refine HL.still (Runs.assign e17) ?_
    intro u2 e2
    refine HL.nil ?_
    refine HW.ret ?_
    refine RT.one rfl e2 ⟨?_, by rw [hh2]; exact E1⟩
    unfold sumsO
    rw [hb, Bool.true_and]
  | false =>
    rw [hb] at g4
    -- region 2
    repeat refine HW.seq ?_
    refine HW.region ?_
    refine HL.still (Runs.move g4) ?_
    intro u11 e11
    refine HL.still (Runs.move e11) ?_
    intro u12 e12
    refine HL.skipG rfl rfl e12 ?_
    intro u13 e13
    refine HL.skipG rfl rfl e12 ?_
    intro u14 e14
    refine HL.skipG rfl rfl e12 ?_
    intro u15 e15
    refine HL.skipG rfl rfl e12 ?_
    intro u16 e16
    refine HL.still (Runs.pick e12 rfl) ?_
    intro u17 e17
    refine HL.still (Runs.assign e17) ?_
    intro u2 e2
    refine HL.nil ?_
    refine HW.ret ?_
    refine RT.one rfl e2 ⟨?_, E1⟩
    unfold sumsO
    rw [hb, Bool.false_and]
    rfl
end Go.Proofs.YtfogkggkjmkdiaaDoor
