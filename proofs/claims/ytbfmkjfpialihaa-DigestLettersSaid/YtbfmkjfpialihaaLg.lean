/- onionskinlaw02.DigestLetters returns true. -/
import Derived.Test.YtbfmkjfpialihaaLf
import Derived.Laws.IdiomStrings
namespace Go.Proofs.Ytbfmkjfpialihaa
set_option linter.unnecessarySimpa false
set_option linter.unusedSimpArgs false
set_option linter.unusedVariables false
open Go.RowKit
set_option maxRecDepth 10000
/-! ### One other letter -/
theorem getD_set_eq (l : List UInt8) (i j : Nat) (c : UInt8) (hi : i < l.length) : (l.set i c).getD j 0 = if i = j then c else l.getD j 0 := by
  by_cases h : i = j
  · subst h; rw [if_pos rfl]; exact getD_set_self l i c 0 hi
  · rw [if_neg h]; exact getD_set_ne l i j c 0 h
theorem letters_ok (d : List UInt8) (hd : d.length = 32) (i : Nat) (hi : i < 71) (c : UInt8) (hc : (prD d).getD i 0 ≠ c) : (parseD ((prD d).set i c)).2 = (decide (6 < i) && decide (val c < 16)) := by
  have hl : (prD d).length = 71 := by rw [prD_len, hd]
  have hpl : (prH d).length = 64 := by rw [prH_len, hd]
  by_cases h7 : i < 7
  · have hp : (((prD d).set i c).take 7 == pre7) = false := by
      rw [beq_eq_false_iff_ne]
      intro e
      have h1 : (((prD d).set i c).take 7).getD i 0 = pre7.getD i 0 := by rw [e]
      have h2 : (prD d).take 7 = pre7 := by simp [prD, pre7]
      have h3 : (((prD d).set i c).take 7).getD i 0 = c := by
        rw [List.getD_eq_getElem?_getD, List.getElem?_take, if_pos h7, ← List.getD_eq_getElem?_getD, getD_set_eq _ _ _ _ (by omega), if_pos rfl]
      have h4 : pre7.getD i 0 = (prD d).getD i 0 := by
        rw [← h2, List.getD_eq_getElem?_getD, List.getElem?_take, if_pos h7, ← List.getD_eq_getElem?_getD]
      rw [h3, h4] at h1
      exact hc h1.symm
    rw [parse_bad (isD_pre hp)]
    simp; omega
  · obtain ⟨k, rfl⟩ : ∃ k, i = 7 + k := ⟨i - 7, by omega⟩
    have hset : ((prD d).set (7 + k) c) = pre7 ++ (prH d).set k c := by
      unfold prD
      rw [List.set_append_right _ _ (by simp [pre7])]
      simp [pre7]
    have hdrop : (pre7 ++ (prH d).set k c).drop 7 = (prH d).set k c := by simp [pre7]
    have htake : ((pre7 ++ (prH d).set k c).take 7 == pre7) = true := by simp [pre7]
    rw [hset]
    by_cases hv : val c < 16
    · rw [parse_ok (isD_yes (by simp [pre7, hpl]) htake ?_)]
      · simp [hv]; omega
      · rw [hdrop]
        refine good_of fun j hj => ?_
        rw [getD_set_eq _ _ _ _ (by omega)]
        split
        · exact hv
        · exact good_at (prH_good d) (by simpa using hj)
    · rw [parse_bad (isD_good ?_)]
      · simp [hv]
      · rw [hdrop]
        exact bad_of (j := k) (by simp; omega) (by rw [getD_set_eq _ _ _ _ (by omega), if_pos rfl]; exact hv)
theorem letters_ne (d : List UInt8) (hd : d.length = 32) (i : Nat) (hi : i < 71) (c : UInt8) (hc : (prD d).getD i 0 ≠ c) (h : (parseD ((prD d).set i c)).2 = true) : (parseD ((prD d).set i c)).1 ≠ d := by
  intro e
  have h1 := prD_parse _ h
  rw [e] at h1
  have hl : (prD d).length = 71 := by rw [prD_len, hd]
  have h2 : (prD d).getD i 0 = ((prD d).set i c).getD i 0 := by rw [← h1]
  rw [getD_set_eq _ _ _ _ (by omega), if_pos rfl] at h2
  exact hc h2
section
variable {P : Program} {n : Nat} {ops : Array Oper} {l : List Oper} {f : St} {h : Heap} {d dg j : Nat} {oq : Op} {ty : TypeId} {pos : String} {af : Array Edge} {want : Bool} {oj : Oper}
/-- An operation whose guard was itself left out. -/
theorem HL.skipU {K : St → Heap → Prop} (hj : ops[j]? = some oj) (hdj : oj.dst = some dg) (hb : f dg = undef) (k : ∀ u, u = undef → HL P n ops l K (upd f d u) h)
    (hdg : Nat.blt dg n = true := by rfl) (hd : okDst n (some d) = true := by rfl) : HL P n ops (⟨some d, oq, ty, pos, af, some (j, want)⟩ :: l) K f h := by
  intro a w0 w ha hr hw
  have hwt : Region.wanted ⟨some d, oq, ty, pos, af, some (j, want)⟩ (yielded ops a.tmps) = false := by
    have h1 : a.tmps[dg]? = some undef := by
      have h2 := ha.slot dg
      have hl : dg < a.tmps.size := by rw [ha.size]; simpa [Nat.blt_eq] using hdg
      simp [Array.getD, hl, hb] at h2
      simp [hl, h2]
    unfold Region.wanted
    simp only [yielded, hj, Option.bind_some, hdj, h1]
    rfl
  exact wpList_skip hwt (k _ rfl _ w0 _ (ha.puto (some d) hd undef) hr hw)
/-- '[]byte(s)'. -/
theorem HO.ofStr {ρ : Operand → Value} {d : Option Tmp} {gd : Option (Nat × Bool)} {K : Value → Heap → Prop} {T T2 : TypeId} {x : Operand} {e : TypeId} {xs : List UInt8} (hs : P.underlying T = some .string) (hu : P.underlying T2 = some (.slice e)) (he : P.underlying e = some (.int .u8)) (hx : ρ x = .string (strOf xs))
    (k : ∀ cap h' zs, Nw h h' (.cells (xs.map B8 ++ zs).toArray e (0, 0)) ∨ Nw h h' (.cells (xs.map B8 ++ zs).toArray e ((xs.map B8 ++ zs).length, (xs.map B8 ++ zs).length + 1)) → xs.length ≤ cap → K (.slice (some ⟨h.size, 0, none⟩) xs.length cap) h') : HO P ⟨d, .convert T T2 x, ty, pos, af, gd⟩ ρ h K := by
  intro w hw
  subst hw
  have h1 := run_bytes_of_string (P := P) w T T2 e (strOf xs) hs hu he
  rw [strOf_size] at h1
  generalize hgc : grownCap w xs.length 0 e = gc at h1
  have hge : xs.length ≤ gc := hgc ▸ grownCap_ge w _ _ e
  have hA : bytesRow (strOf xs) gc = (xs.map B8 ++ List.replicate (gc - xs.length) (Value.int .u8 0)).toArray := by
    apply Array.toList_inj.1
    unfold bytesRow
    rw [strOf_size]
    simp [strOf]
  rw [hA] at h1
  have : (execOp ρ ⟨d, .convert T T2 x, ty, pos, af, gd⟩).run P w = .ok (.value (.slice (some ⟨w.heap.size, 0, none⟩) xs.length gc)) (w.drew.alloc (.cells (xs.map B8 ++ List.replicate (gc - xs.length) (Value.int .u8 0)).toArray e ((xs.map B8 ++ List.replicate (gc - xs.length) (Value.int .u8 0)).toArray.size, (xs.map B8 ++ List.replicate (gc - xs.length) (Value.int .u8 0)).toArray.size + 1))) := by
    simp only [execOp, hx, Sem.run_bind, h1]
    rfl
  rw [this]
  refine ⟨⟨rfl, rfl, rfl⟩, ?_⟩
  exact k gc _ (List.replicate (gc - xs.length) (Value.int .u8 0)) (.inr (by
    have := Nw.push w.heap (.cells (xs.map B8 ++ List.replicate (gc - xs.length) (Value.int .u8 0)).toArray e ((xs.map B8 ++ List.replicate (gc - xs.length) (Value.int .u8 0)).toArray.size, (xs.map B8 ++ List.replicate (gc - xs.length) (Value.int .u8 0)).toArray.size + 1))
    rw [List.size_toArray] at this
    exact this)) hge
end
theorem val_dig {c : UInt8} (h1 : 48 ≤ c.toNat) (h2 : c.toNat ≤ 57) : val c < 16 := by unfold val; rw [if_pos ⟨h1, h2⟩]; omega
theorem val_let {c : UInt8} (h1 : 97 ≤ c.toNat) (h2 : c.toNat ≤ 102) : val c < 16 := by unfold val; rw [if_neg (by omega), if_pos ⟨h1, h2⟩]; omega
theorem val_none {c : UInt8} (h1 : ¬(48 ≤ c.toNat ∧ c.toNat ≤ 57)) (h2 : ¬(97 ≤ c.toNat ∧ c.toNat ≤ 102)) : ¬ val c < 16 := by unfold val; rw [if_neg h1, if_neg h2]; omega
theorem lawLetters_ch (h : Heap) (xs : List UInt8) (hx' : xs.length = 32) (n : Int) (c : UInt8) :
    CH Try.prog 11 #[.agg (xs.map B8).toArray, .int .i64 n, B8 c] h fun v h' => v = .bool true ∧ Ext h h' := by
  refine CH.of_body Try.func11 rfl rfl rfl ?_
  intro f hf
  have p0 : f 0 = .agg (xs.map B8).toArray := by rw [hf]; exact fr0_at rfl
  have p1 : f 1 = .int .i64 n := by rw [hf]; exact fr0_at rfl
  have p2 : f 2 = B8 c := by rw [hf]; exact fr0_at rfl
  have hpl : (prD xs).length = 71 := by rw [prD_len, hx']
  -- region 0
  repeat refine HW.seq ?_
  refine HW.region ?_
  refine HL.one (HO.box p0 ?_)
  intro h1 w1
  intro u3 e3
  refine HL.still (Runs.assign rfl) ?_
  intro u6 e6
  refine HL.nil ?_
  have z1 := w1.size
  -- region 1
  repeat refine HW.seq ?_
  refine HW.region ?_
  refine HL.one (HO.call Try.func20 bd20 nm20 (args0) rfl ((small2_ch _).mono ?_))
  rintro _ h3 ⟨rfl, E3⟩
  intro u12 e12
  refine HL.still (Runs.assign e12) ?_
  intro u7 e7
  refine HL.nil ?_
  have A3 := E3.keepE w1.new
  have X3 := w1.ext.ext E3 (Nat.le_refl _)
  -- region 2
  repeat refine HW.seq ?_
  refine HW.region ?_
  refine HL.still (Runs.loadAgg Try.underlying25 rfl sz25 e3 (by rw [List.length_map]; exact hx') (load_blk A3)) ?_
  intro u13 e13
  refine HL.one (HO.call Try.func23 bd23 nm23 (args1 e13) rfl ((print_ch h3 xs hx').mono ?_))
  rintro _ h4 ⟨rfl, E4⟩
  intro u14 e14
  refine HL.one (HO.ofStr Try.underlying9 Try.underlying22 Try.underlying5 e14 fun cap h5 zs w5' hcap => ?_)
  intro u15 e15
  refine HL.still (Runs.assign e15) ?_
  intro u8 e8
  refine HL.nil ?_
  obtain ⟨fr, w5, hfr⟩ : ∃ fr : Nat × Nat, Nw h4 h5 (.cells ((prD xs).map B8 ++ zs).toArray 5 fr) ∧ ∀ o, o < 71 → (fr.1 ≤ o && o < fr.2) = false := by
    rcases w5' with w | w
    · exact ⟨_, w, fun o _ => by simp⟩
    · exact ⟨_, w, fun o ho => by simp [hpl]; omega⟩
  have z4 := E4.size
  have z5 := w5.size
  have hx3 := X3.size
  have z3 := E3.size
  have X5 : Ext h h5 := (X3.ext E4 (Nat.le_refl _)).ext w5.ext (Nat.le_refl _)
  have A5 := w5.keep (E4.keepE A3)
  by_cases hneg : n < 0
  · skip
    -- region 3
    repeat refine HW.seq ?_
    refine HW.region ?_
    refine HL.still (Runs.move p1) ?_
    intro u16 e16
    refine HL.still (Runs.lss e16 rfl (t := true) (decide_eq_true hneg)) ?_
    intro u17 e17
    refine HL.still (Runs.move e17) ?_
    intro u18 e18
    refine HL.skipG rfl rfl e18 ?_
    intro u19 e19
    refine HL.skipG rfl rfl e18 ?_
    intro u20 e20
    refine HL.skipG rfl rfl e18 ?_
    intro u21 e21
    refine HL.skipG rfl rfl e18 ?_
    intro u22 e22
    refine HL.still (Runs.pick e18 rfl) ?_
    intro u23 e23
    refine HL.still (Runs.move e23) ?_
    intro u24 e24
    refine HL.skipG rfl rfl e24 ?_
    intro u25 e25
    refine HL.skipG rfl rfl e24 ?_
    intro u26 e26
    refine HL.skipG rfl rfl e24 ?_
    intro u27 e27
    refine HL.skipG rfl rfl e24 ?_
    intro u28 e28
    refine HL.skipG rfl rfl e24 ?_
    intro u29 e29
    refine HL.skipG rfl rfl e24 ?_
    intro u30 e30
    refine HL.still (Runs.pick e24 rfl) ?_
    intro u31 e31
    refine HL.nil ?_
    repeat refine HW.seq ?_
    refine HW.yes ?_ ?_
    exact e31
    -- region 4
    repeat refine HW.seq ?_
    refine HW.region ?_
    refine HL.still (Runs.move e7) ?_
    intro u32 e32
    refine HL.still (Runs.assign e32) ?_
    intro u6 e6
    refine HL.nil ?_
    refine HW.ret ?_
    exact RT.one rfl e6 ⟨rfl, X5⟩
  by_cases hbig : 71 ≤ n
  · skip
    -- region 3
    repeat refine HW.seq ?_
    refine HW.region ?_
    refine HL.still (Runs.move p1) ?_
    intro u16 e16
    refine HL.still (Runs.lss e16 rfl (t := false) (decide_eq_false hneg)) ?_
    intro u17 e17
    refine HL.still (Runs.move e17) ?_
    intro u18 e18
    refine HL.stillG rfl rfl e18 (Runs.move p1) ?_
    intro u19 e19
    refine HL.stillG rfl rfl e18 (Runs.move e8) ?_
    intro u20 e20
    refine HL.stillG rfl rfl e18 (Runs.lenSl rfl Try.underlying22 e20) ?_
    intro u21 e21
    refine HL.stillG rfl rfl e18 (Runs.geq e19 e21 (t := true) (decide_eq_true (by omega))) ?_
    intro u22 e22
    refine HL.still (Runs.pick e18 e22) ?_
    intro u23 e23
    refine HL.still (Runs.move e23) ?_
    intro u24 e24
    refine HL.skipG rfl rfl e24 ?_
    intro u25 e25
    refine HL.skipG rfl rfl e24 ?_
    intro u26 e26
    refine HL.skipG rfl rfl e24 ?_
    intro u27 e27
    refine HL.skipG rfl rfl e24 ?_
    intro u28 e28
    refine HL.skipG rfl rfl e24 ?_
    intro u29 e29
    refine HL.skipG rfl rfl e24 ?_
    intro u30 e30
    refine HL.still (Runs.pick e24 rfl) ?_
    intro u31 e31
    refine HL.nil ?_
    repeat refine HW.seq ?_
    refine HW.yes ?_ ?_
    exact e31
    -- region 4
    repeat refine HW.seq ?_
    refine HW.region ?_
    refine HL.still (Runs.move e7) ?_
    intro u32 e32
    refine HL.still (Runs.assign e32) ?_
    intro u6 e6
    refine HL.nil ?_
    refine HW.ret ?_
    exact RT.one rfl e6 ⟨rfl, X5⟩
  obtain ⟨i, rfl⟩ : ∃ i : Nat, n = (i : Int) := ⟨n.toNat, by omega⟩
  have hi71 : i < 71 := by omega
  have hci : cellH h5 h4.size i = some (B8 ((prD xs).getD i 0)) := cellH_list w5.new (by rw [List.getElem?_append_left (by rw [List.length_map]; omega)]; exact getD_map B8 (prD xs) i 0 (by omega))
  by_cases hce : (prD xs).getD i 0 = c
  · skip
    -- region 3
    repeat refine HW.seq ?_
    refine HW.region ?_
    refine HL.still (Runs.move p1) ?_
    intro u16 e16
    refine HL.still (Runs.lss e16 rfl (t := false) (decide_eq_false hneg)) ?_
    intro u17 e17
    refine HL.still (Runs.move e17) ?_
    intro u18 e18
    refine HL.stillG rfl rfl e18 (Runs.move p1) ?_
    intro u19 e19
    refine HL.stillG rfl rfl e18 (Runs.move e8) ?_
    intro u20 e20
    refine HL.stillG rfl rfl e18 (Runs.lenSl rfl Try.underlying22 e20) ?_
    intro u21 e21
    refine HL.stillG rfl rfl e18 (Runs.geq e19 e21 (t := false) (decide_eq_false (by omega))) ?_
    intro u22 e22
    refine HL.still (Runs.pick e18 e22) ?_
    intro u23 e23
    refine HL.still (Runs.move e23) ?_
    intro u24 e24
    refine HL.stillG rfl rfl e24 (Runs.move e8) ?_
    intro u25 e25
    refine HL.stillG rfl rfl e24 (Runs.move p1) ?_
    intro u26 e26
    refine HL.stillG rfl rfl e24 (Runs.ixSl (o' := i) Try.underlying22 sz5 e25 e26 (by omega) (by omega) (by omega)) ?_
    intro u27 e27
    refine HL.stillG rfl rfl e24 (Runs.load Try.underlying5 rfl e27 hci) ?_
    intro u28 e28
    refine HL.stillG rfl rfl e24 (Runs.move p2) ?_
    intro u29 e29
    refine HL.stillG rfl rfl e24 (Runs.eql e28 e29 (t := true) (by rw [hce]; simp)) ?_
    intro u30 e30
    refine HL.still (Runs.pick e24 e30) ?_
    intro u31 e31
    refine HL.nil ?_
    repeat refine HW.seq ?_
    refine HW.yes ?_ ?_
    exact e31
    -- region 4
    repeat refine HW.seq ?_
    refine HW.region ?_
    refine HL.still (Runs.move e7) ?_
    intro u32 e32
    refine HL.still (Runs.assign e32) ?_
    intro u6 e6
    refine HL.nil ?_
    refine HW.ret ?_
    exact RT.one rfl e6 ⟨rfl, X5⟩
  have hcn : (((prD xs).getD i 0).toNat : Int) ≠ (c.toNat : Int) := fun e => hce (UInt8.toNat_inj.1 (by omega))
  -- region 3
  repeat refine HW.seq ?_
  refine HW.region ?_
  refine HL.still (Runs.move p1) ?_
  intro u16 e16
  refine HL.still (Runs.lss e16 rfl (t := false) (decide_eq_false hneg)) ?_
  intro u17 e17
  refine HL.still (Runs.move e17) ?_
  intro u18 e18
  refine HL.stillG rfl rfl e18 (Runs.move p1) ?_
  intro u19 e19
  refine HL.stillG rfl rfl e18 (Runs.move e8) ?_
  intro u20 e20
  refine HL.stillG rfl rfl e18 (Runs.lenSl rfl Try.underlying22 e20) ?_
  intro u21 e21
  refine HL.stillG rfl rfl e18 (Runs.geq e19 e21 (t := false) (decide_eq_false (by omega))) ?_
  intro u22 e22
  refine HL.still (Runs.pick e18 e22) ?_
  intro u23 e23
  refine HL.still (Runs.move e23) ?_
  intro u24 e24
  refine HL.stillG rfl rfl e24 (Runs.move e8) ?_
  intro u25 e25
  refine HL.stillG rfl rfl e24 (Runs.move p1) ?_
  intro u26 e26
  refine HL.stillG rfl rfl e24 (Runs.ixSl (o' := i) Try.underlying22 sz5 e25 e26 (by omega) (by omega) (by omega)) ?_
  intro u27 e27
  refine HL.stillG rfl rfl e24 (Runs.load Try.underlying5 rfl e27 hci) ?_
  intro u28 e28
  refine HL.stillG rfl rfl e24 (Runs.move p2) ?_
  intro u29 e29
  refine HL.stillG rfl rfl e24 (Runs.eql e28 e29 (t := false) (by simpa using hcn)) ?_
  intro u30 e30
  refine HL.still (Runs.pick e24 e30) ?_
  intro u31 e31
  refine HL.nil ?_
  repeat refine HW.seq ?_
  refine HW.no ?_ ?_
  exact e31
  refine HW.skip ?_
  -- region 5
  repeat refine HW.seq ?_
  refine HW.region ?_
  refine HL.still (Runs.move e8) ?_
  intro u33 e33
  refine HL.still (Runs.move p1) ?_
  intro u34 e34
  refine HL.still (Runs.move p2) ?_
  intro u35 e35
  refine HL.still (Runs.ixSl (o' := i) Try.underlying22 sz5 e33 e34 (by omega) (by omega) (by omega)) ?_
  intro u36 e36
  refine HL.zero (HO.store (s := 1) sz5 e36 e35 rfl w5.new (by rw [List.length_append, List.length_map]; omega) (hfr i hi71) fun h6 w6 => ?_)
  refine HL.nil ?_
  have z6 := w6.size
  obtain ⟨s', hs'⟩ : ∃ s', s' = (prD xs).set i c := ⟨_, rfl⟩
  have hsl : s'.length = 71 := by rw [hs', List.length_set]; exact hpl
  have hb6 : h6[h4.size]? = some (.cells (s'.map B8 ++ zs).toArray 5 fr) := by
    rw [hs', List.map_set, ← List.set_append_left _ _ (by rw [List.length_map]; omega)]
    exact w6.new
  have hbyt6 : Byt h6 (some ⟨h4.size, 0, none⟩) s' := .inr ⟨_, _, rfl, fun j hj => by
    rw [Nat.zero_add]
    exact cellH_list hb6 (by rw [List.getElem?_append_left (by rw [List.length_map]; omega)]; exact getD_map B8 s' j 0 hj)⟩
  have X6 : Ext h h6 := X5.wr w6 (by omega)
  have A6 := w6.keep A5 (by omega)
  -- region 6
  repeat refine HW.seq ?_
  refine HW.region ?_
  refine HL.still (Runs.move e8) ?_
  intro u38 e38
  refine HL.still (Runs.toStrB Try.underlying22 Try.underlying5 Try.underlying9 e38 (hpl.trans hsl.symm) hbyt6) ?_
  intro u39 e39
  refine HL.one (HO.call Try.func21 bd21 nm21 (args1 e39) rfl ((parse_ch h6 s' (by omega)).mono ?_))
  rintro _ h7 ⟨rfl, E7⟩
  intro u40 e40
  refine HL.still (Runs.move e40) ?_
  intro u37 e37
  refine HL.still (Runs.extr e37 rfl) ?_
  intro u41 e41
  refine HL.still (Runs.extr e37 rfl) ?_
  intro u42 e42
  refine HL.one (HO.alloc zr25 ?_)
  intro h8 w8
  intro u9 e9
  refine HL.zero (HO.storeAll sz25 e9 e41 (one_map B8 (fun _ => rfl) _) w8.new (by rw [List.length_map, parse_len]) rfl ?_)
  intro h9 w9
  refine HL.still (Runs.assign e42) ?_
  intro u10 e10
  refine HL.nil ?_
  have z7 := E7.size
  have z8 := w8.size
  have z9 := w9.size
  have X9 : Ext h h9 := ((X6.ext E7 (Nat.le_refl _)).nw w8 (Nat.le_refl _)).wr w9 (by omega)
  have A9 := w9.keep (w8.keep (E7.keepE A6)) (by omega)
  have C9 := w9.new
  have hok := letters_ok xs hx' i hi71 c hce
  have hne := letters_ne xs hx' i hi71 c hce
  rw [← hs'] at hok hne
  repeat refine HW.seq ?_
  refine HW.mono (N := fun f' g => g = h9 ∧ f' 11 = .bool (decide (val c < 16)) ∧ f' 1 = .int .i64 (i : Int) ∧ f' 3 = .pointer (some ⟨h.size, 0, none⟩) ∧ f' 7 = .bool true ∧ f' 9 = .pointer (some ⟨h7.size, 0, none⟩) ∧ f' 10 = .bool (parseD s').2) ?_ ?_ (fun _ _ _ h => h) (fun _ _ h => h)
  · by_cases h1 : 48 ≤ c.toNat
    · by_cases h2 : c.toNat ≤ 57
      · skip
        -- region 7
        repeat refine HW.seq ?_
        refine HW.region ?_
        refine HL.still (Runs.move p2) ?_
        intro u43 e43
        refine HL.still (Runs.geq e43 rfl (t := true) (decide_eq_true (by omega))) ?_
        intro u44 e44
        refine HL.still (Runs.move e44) ?_
        intro u45 e45
        refine HL.stillG rfl rfl e45 (Runs.move p2) ?_
        intro u46 e46
        refine HL.stillG rfl rfl e45 (Runs.leq e46 rfl (t := true) (decide_eq_true (by omega))) ?_
        intro u47 e47
        refine HL.still (Runs.pick e45 e47) ?_
        intro u48 e48
        refine HL.still (Runs.move e48) ?_
        intro u49 e49
        refine HL.skipG rfl rfl e49 ?_
        intro u50 e50
        refine HL.skipG rfl rfl e49 ?_
        intro u51 e51
        refine HL.skipG rfl rfl e49 ?_
        intro u52 e52
        refine HL.skipU rfl rfl e52 ?_
        intro u53 e53
        refine HL.skipU rfl rfl e52 ?_
        intro u54 e54
        refine HL.skipG rfl rfl e49 ?_
        intro u55 e55
        refine HL.still (Runs.pick e49 rfl) ?_
        intro u56 e56
        refine HL.still (Runs.assign e56) ?_
        intro u11 e11
        refine HL.nil ?_
        exact ⟨rfl, e11.trans (congrArg Value.bool (decide_eq_true (val_dig h1 h2)).symm), p1, e3, e7, e9, e10⟩
      · by_cases h3 : 97 ≤ c.toNat
        · by_cases h4 : c.toNat ≤ 102
          · skip
            -- region 7
            repeat refine HW.seq ?_
            refine HW.region ?_
            refine HL.still (Runs.move p2) ?_
            intro u43 e43
            refine HL.still (Runs.geq e43 rfl (t := true) (decide_eq_true (by omega))) ?_
            intro u44 e44
            refine HL.still (Runs.move e44) ?_
            intro u45 e45
            refine HL.stillG rfl rfl e45 (Runs.move p2) ?_
            intro u46 e46
            refine HL.stillG rfl rfl e45 (Runs.leq e46 rfl (t := false) (decide_eq_false (by omega))) ?_
            intro u47 e47
            refine HL.still (Runs.pick e45 e47) ?_
            intro u48 e48
            refine HL.still (Runs.move e48) ?_
            intro u49 e49
            refine HL.stillG rfl rfl e49 (Runs.move p2) ?_
            intro u50 e50
            refine HL.stillG rfl rfl e49 (Runs.geq e50 rfl (t := true) (decide_eq_true (by omega))) ?_
            intro u51 e51
            refine HL.stillG rfl rfl e49 (Runs.move e51) ?_
            intro u52 e52
            refine HL.stillG rfl rfl e52 (Runs.move p2) ?_
            intro u53 e53
            refine HL.stillG rfl rfl e52 (Runs.leq e53 rfl (t := true) (decide_eq_true (by omega))) ?_
            intro u54 e54
            refine HL.stillG rfl rfl e49 (Runs.pick e52 e54) ?_
            intro u55 e55
            refine HL.still (Runs.pick e49 e55) ?_
            intro u56 e56
            refine HL.still (Runs.assign e56) ?_
            intro u11 e11
            refine HL.nil ?_
            exact ⟨rfl, e11.trans (congrArg Value.bool (decide_eq_true (val_let h3 h4)).symm), p1, e3, e7, e9, e10⟩
          · skip
            -- region 7
            repeat refine HW.seq ?_
            refine HW.region ?_
            refine HL.still (Runs.move p2) ?_
            intro u43 e43
            refine HL.still (Runs.geq e43 rfl (t := true) (decide_eq_true (by omega))) ?_
            intro u44 e44
            refine HL.still (Runs.move e44) ?_
            intro u45 e45
            refine HL.stillG rfl rfl e45 (Runs.move p2) ?_
            intro u46 e46
            refine HL.stillG rfl rfl e45 (Runs.leq e46 rfl (t := false) (decide_eq_false (by omega))) ?_
            intro u47 e47
            refine HL.still (Runs.pick e45 e47) ?_
            intro u48 e48
            refine HL.still (Runs.move e48) ?_
            intro u49 e49
            refine HL.stillG rfl rfl e49 (Runs.move p2) ?_
            intro u50 e50
            refine HL.stillG rfl rfl e49 (Runs.geq e50 rfl (t := true) (decide_eq_true (by omega))) ?_
            intro u51 e51
            refine HL.stillG rfl rfl e49 (Runs.move e51) ?_
            intro u52 e52
            refine HL.stillG rfl rfl e52 (Runs.move p2) ?_
            intro u53 e53
            refine HL.stillG rfl rfl e52 (Runs.leq e53 rfl (t := false) (decide_eq_false (by omega))) ?_
            intro u54 e54
            refine HL.stillG rfl rfl e49 (Runs.pick e52 e54) ?_
            intro u55 e55
            refine HL.still (Runs.pick e49 e55) ?_
            intro u56 e56
            refine HL.still (Runs.assign e56) ?_
            intro u11 e11
            refine HL.nil ?_
            exact ⟨rfl, e11.trans (congrArg Value.bool (decide_eq_false (val_none (by omega) (by omega))).symm), p1, e3, e7, e9, e10⟩
        · skip
          -- region 7
          repeat refine HW.seq ?_
          refine HW.region ?_
          refine HL.still (Runs.move p2) ?_
          intro u43 e43
          refine HL.still (Runs.geq e43 rfl (t := true) (decide_eq_true (by omega))) ?_
          intro u44 e44
          refine HL.still (Runs.move e44) ?_
          intro u45 e45
          refine HL.stillG rfl rfl e45 (Runs.move p2) ?_
          intro u46 e46
          refine HL.stillG rfl rfl e45 (Runs.leq e46 rfl (t := false) (decide_eq_false (by omega))) ?_
          intro u47 e47
          refine HL.still (Runs.pick e45 e47) ?_
          intro u48 e48
          refine HL.still (Runs.move e48) ?_
          intro u49 e49
          refine HL.stillG rfl rfl e49 (Runs.move p2) ?_
          intro u50 e50
          refine HL.stillG rfl rfl e49 (Runs.geq e50 rfl (t := false) (decide_eq_false (by omega))) ?_
          intro u51 e51
          refine HL.stillG rfl rfl e49 (Runs.move e51) ?_
          intro u52 e52
          refine HL.skipG rfl rfl e52 ?_
          intro u53 e53
          refine HL.skipG rfl rfl e52 ?_
          intro u54 e54
          refine HL.stillG rfl rfl e49 (Runs.pick e52 rfl) ?_
          intro u55 e55
          refine HL.still (Runs.pick e49 e55) ?_
          intro u56 e56
          refine HL.still (Runs.assign e56) ?_
          intro u11 e11
          refine HL.nil ?_
          exact ⟨rfl, e11.trans (congrArg Value.bool (decide_eq_false (val_none (by omega) (by omega))).symm), p1, e3, e7, e9, e10⟩
    · skip
      -- region 7
      repeat refine HW.seq ?_
      refine HW.region ?_
      refine HL.still (Runs.move p2) ?_
      intro u43 e43
      refine HL.still (Runs.geq e43 rfl (t := false) (decide_eq_false (by omega))) ?_
      intro u44 e44
      refine HL.still (Runs.move e44) ?_
      intro u45 e45
      refine HL.skipG rfl rfl e45 ?_
      intro u46 e46
      refine HL.skipG rfl rfl e45 ?_
      intro u47 e47
      refine HL.still (Runs.pick e45 rfl) ?_
      intro u48 e48
      refine HL.still (Runs.move e48) ?_
      intro u49 e49
      refine HL.stillG rfl rfl e49 (Runs.move p2) ?_
      intro u50 e50
      refine HL.stillG rfl rfl e49 (Runs.geq e50 rfl (t := false) (decide_eq_false (by omega))) ?_
      intro u51 e51
      refine HL.stillG rfl rfl e49 (Runs.move e51) ?_
      intro u52 e52
      refine HL.skipG rfl rfl e52 ?_
      intro u53 e53
      refine HL.skipG rfl rfl e52 ?_
      intro u54 e54
      refine HL.stillG rfl rfl e49 (Runs.pick e52 rfl) ?_
      intro u55 e55
      refine HL.still (Runs.pick e49 e55) ?_
      intro u56 e56
      refine HL.still (Runs.assign e56) ?_
      intro u11 e11
      refine HL.nil ?_
      exact ⟨rfl, e11.trans (congrArg Value.bool (decide_eq_false (val_none (by omega) (by omega))).symm), p1, e3, e7, e9, e10⟩
  rintro f g ⟨rfl, f11, f1, f3, f7, f9, f10⟩
  by_cases h6 : 6 < i
  · by_cases hv : val c < 16
    · have hok2 : (parseD s').2 = true := by rw [hok]; simp [h6, hv]
      rw [hok2] at f10
      rw [decide_eq_true hv] at f11
      -- region 8
      repeat refine HW.seq ?_
      refine HW.region ?_
      refine HL.still (Runs.move f7) ?_
      intro u57 e57
      refine HL.still (Runs.move e57) ?_
      intro u58 e58
      refine HL.stillG rfl rfl e58 (Runs.move f10) ?_
      intro u59 e59
      refine HL.stillG rfl rfl e58 (Runs.move f1) ?_
      intro u60 e60
      refine HL.stillG rfl rfl e58 (Runs.gtr e60 rfl (t := true) (decide_eq_true (by omega))) ?_
      intro u61 e61
      refine HL.stillG rfl rfl e58 (Runs.move e61) ?_
      intro u62 e62
      refine HL.stillG rfl rfl e62 (Runs.move f11) ?_
      intro u63 e63
      refine HL.stillG rfl rfl e58 (Runs.pick e62 e63) ?_
      intro u64 e64
      refine HL.stillG rfl rfl e58 (Runs.eqB Try.underlying4 e59 e64 (b := true) rfl) ?_
      intro u65 e65
      refine HL.still (Runs.pick e58 e65) ?_
      intro u66 e66
      refine HL.still (Runs.move e66) ?_
      intro u67 e67
      refine HL.stillG rfl rfl e67 (Runs.move f10) ?_
      intro u68 e68
      refine HL.stillG rfl rfl e67 (Runs.notb e68 (t := true) (u := false) rfl) ?_
      intro u69 e69
      refine HL.stillG rfl rfl e67 (Runs.move e69) ?_
      intro u70 e70
      refine HL.stillG rfl rfl e70 (Runs.loadAgg Try.underlying25 rfl sz25 f9 (by rw [List.length_map, parse_len]) (load_blk C9)) ?_
      intro u71 e71
      refine HL.stillG rfl rfl e70 (Runs.loadAgg Try.underlying25 rfl sz25 f3 (by rw [List.length_map]; exact hx') (load_blk A9)) ?_
      intro u72 e72
      refine HL.stillG rfl rfl e70 (Runs.neqBytes Try.underlying25 Try.underlying5 sz5 eg25 e71 e72 (t := true) (parse_len _) hx' (by simpa using hne hok2)) ?_
      intro u73 e73
      refine HL.stillG rfl rfl e67 (Runs.pick e70 e73) ?_
      intro u74 e74
      refine HL.still (Runs.pick e67 e74) ?_
      intro u75 e75
      refine HL.still (Runs.assign e75) ?_
      intro u6 e6
      refine HL.nil ?_
      refine HW.ret ?_
      exact RT.one rfl e6 ⟨rfl, X9⟩
    · have hok2 : (parseD s').2 = false := by rw [hok]; simp [hv]
      rw [hok2] at f10
      rw [decide_eq_false hv] at f11
      -- region 8
      repeat refine HW.seq ?_
      refine HW.region ?_
      refine HL.still (Runs.move f7) ?_
      intro u57 e57
      refine HL.still (Runs.move e57) ?_
      intro u58 e58
      refine HL.stillG rfl rfl e58 (Runs.move f10) ?_
      intro u59 e59
      refine HL.stillG rfl rfl e58 (Runs.move f1) ?_
      intro u60 e60
      refine HL.stillG rfl rfl e58 (Runs.gtr e60 rfl (t := true) (decide_eq_true (by omega))) ?_
      intro u61 e61
      refine HL.stillG rfl rfl e58 (Runs.move e61) ?_
      intro u62 e62
      refine HL.stillG rfl rfl e62 (Runs.move f11) ?_
      intro u63 e63
      refine HL.stillG rfl rfl e58 (Runs.pick e62 e63) ?_
      intro u64 e64
      refine HL.stillG rfl rfl e58 (Runs.eqB Try.underlying4 e59 e64 (b := true) rfl) ?_
      intro u65 e65
      refine HL.still (Runs.pick e58 e65) ?_
      intro u66 e66
      refine HL.still (Runs.move e66) ?_
      intro u67 e67
      refine HL.stillG rfl rfl e67 (Runs.move f10) ?_
      intro u68 e68
      refine HL.stillG rfl rfl e67 (Runs.notb e68 (t := false) (u := true) rfl) ?_
      intro u69 e69
      refine HL.stillG rfl rfl e67 (Runs.move e69) ?_
      intro u70 e70
      refine HL.skipG rfl rfl e70 ?_
      intro u71 e71
      refine HL.skipG rfl rfl e70 ?_
      intro u72 e72
      refine HL.skipG rfl rfl e70 ?_
      intro u73 e73
      refine HL.stillG rfl rfl e67 (Runs.pick e70 rfl) ?_
      intro u74 e74
      refine HL.still (Runs.pick e67 e74) ?_
      intro u75 e75
      refine HL.still (Runs.assign e75) ?_
      intro u6 e6
      refine HL.nil ?_
      refine HW.ret ?_
      exact RT.one rfl e6 ⟨rfl, X9⟩
  · have hok2 : (parseD s').2 = false := by rw [hok]; simp [h6]
    rw [hok2] at f10
    -- region 8
    repeat refine HW.seq ?_
    refine HW.region ?_
    refine HL.still (Runs.move f7) ?_
    intro u57 e57
    refine HL.still (Runs.move e57) ?_
    intro u58 e58
    refine HL.stillG rfl rfl e58 (Runs.move f10) ?_
    intro u59 e59
    refine HL.stillG rfl rfl e58 (Runs.move f1) ?_
    intro u60 e60
    refine HL.stillG rfl rfl e58 (Runs.gtr e60 rfl (t := false) (decide_eq_false (by omega))) ?_
    intro u61 e61
    refine HL.stillG rfl rfl e58 (Runs.move e61) ?_
    intro u62 e62
    refine HL.skipG rfl rfl e62 ?_
    intro u63 e63
    refine HL.stillG rfl rfl e58 (Runs.pick e62 rfl) ?_
    intro u64 e64
    refine HL.stillG rfl rfl e58 (Runs.eqB Try.underlying4 e59 e64 (b := true) rfl) ?_
    intro u65 e65
    refine HL.still (Runs.pick e58 e65) ?_
    intro u66 e66
    refine HL.still (Runs.move e66) ?_
    intro u67 e67
    refine HL.stillG rfl rfl e67 (Runs.move f10) ?_
    intro u68 e68
    refine HL.stillG rfl rfl e67 (Runs.notb e68 (t := false) (u := true) rfl) ?_
    intro u69 e69
    refine HL.stillG rfl rfl e67 (Runs.move e69) ?_
    intro u70 e70
    refine HL.skipG rfl rfl e70 ?_
    intro u71 e71
    refine HL.skipG rfl rfl e70 ?_
    intro u72 e72
    refine HL.skipG rfl rfl e70 ?_
    intro u73 e73
    refine HL.stillG rfl rfl e67 (Runs.pick e70 rfl) ?_
    intro u74 e74
    refine HL.still (Runs.pick e67 e74) ?_
    intro u75 e75
    refine HL.still (Runs.assign e75) ?_
    intro u6 e6
    refine HL.nil ?_
    refine HW.ret ?_
    exact RT.one rfl e6 ⟨rfl, X9⟩
end Go.Proofs.Ytbfmkjfpialihaa
