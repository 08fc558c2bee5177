-- MADE by wip/tools/xprint.py of this repo: the kit's print.py, turned by this session, and texts by hand
import Derived.Test.YtpoboffdlnnbmaaPAx0
import Derived.Test.YtpoboffdlnnbmaaPAx11
import Derived.Test.YtpoboffdlnnbmaaPAx12
namespace Go.Proofs.Ytpoboffdlnnbmaa.PA
open Go.RowKit Go.Proofs.YtpoboffdlnnbmaaW.PrintWords Go.Proofs.YtpoboffdlnnbmaaW.PrintLast Go.Proofs.YtpoboffdlnnbmaaW.PrintMore
attribute [local go_sem] max2_int min2_int max_two min_two max_three min_three max_four min_four   -- for this text's walks alone
set_option linter.unusedVariables false
set_option linter.unusedSimpArgs false

-- BY HAND: right.tpl
-- MAKING columns_Right
section
open Go.RowKit Go.Shelf Go.Maps Go.Proofs.YtpoboffdlnnbmaaW.PrintWords Go.Proofs.YtpoboffdlnnbmaaW.PrintLast Go.Proofs.YtpoboffdlnnbmaaW.PrintMore
theorem key3 : Keyed Try.prog 3 := int_keyed Try.underlying3
theorem zero2 (w : World) : (zeroValue 2).run Try.prog w = .ok (.int .i64 0) w := by kernel_rfl
def mostD : DataW Unit := ((DataW.map []).put (.int .i64 1) (.lit (.int .i64 1073741824))).put (.int .i64 2) (.lit (.int .i64 10000000))
theorem two_map (W : World) (B : Nat) (hB : W.heap.size = B) : ∃ W1 W2, (Instr.mapUpdate 105 (.map (some B)) (.int .i64 1) (.int .i64 1073741824)).run Try.prog (W.alloc (.map #[] 0)) = .ok () W1 ∧
  (Instr.mapUpdate 105 (.map (some B)) (.int .i64 2) (.int .i64 10000000)).run Try.prog W1 = .ok () W2 ∧ W2.ownsMap Try.prog 3 (plainElem (H := Unit) Try.prog 2) B 2 mostD ∧ (W.alloc (.map #[] 0)).grownBy W2 (some B) := by
 have h0 := World.ownsMap_made W Try.prog 3 (plainElem (H := Unit) Try.prog 2)
 rw [hB] at h0
 obtain ⟨W1, r1, o1, g1⟩ := h0.update key3 Try.underlying105 (by decide) (keyOf_int_mk (a := 1) Try.underlying3 (by decide)) (plainElem_int Try.underlying2 (by decide) : plainElem Try.prog 2 (.int .i64 1073741824) = some (.lit (.int .i64 1073741824), []))
 obtain ⟨W2, r2, o2, g2⟩ := o1.update key3 Try.underlying105 (by decide) (keyOf_int_mk (a := 2) Try.underlying3 (by decide)) (plainElem_int Try.underlying2 (by decide) : plainElem Try.prog 2 (.int .i64 10000000) = some (.lit (.int .i64 10000000), []))
 exact ⟨W1, W2, r1, r2, o2, g1.trans g2⟩
theorem most0 : mostD.atKey (.int .i64 0) (.lit (.int .i64 0)) = .lit (.int .i64 0) := by rfl
theorem most1 : mostD.atKey (.int .i64 1) (.lit (.int .i64 0)) = .lit (.int .i64 1073741824) := by rfl
theorem most2 : mostD.atKey (.int .i64 2) (.lit (.int .i64 0)) = .lit (.int .i64 10000000) := by rfl
/-- A size that is a computed one. -/
def goodSize (k n : Int) : Bool := if k = 0 then !(outside 0 0 n) else if k = 1 then !(outside 0 1073741824 n) else if k = 2 then !(outside 0 10000000 n) else false
set_option maxRecDepth 100000 in
set_option maxHeartbeats 2000000 in
theorem size_way (k n m : Int) (hk : 0 ≤ k ∧ k ≤ 2) (w : World) (h : ∀ c, mostD.atKey (.int .i64 k) (.lit (.int .i64 0)) = .lit (.int .i64 c) → c = m) :
  Calls Try.prog 28 #[.agg #[.int .i64 k, .int .i64 n]] w fun e w' => e = .returned (.bool (!(outside 0 m n))) ∧ Below w.heap.size w w' := by
 have hmm := @run_makeMap Try.prog
 obtain ⟨W1, W2, r1, r2, hown, hgrow⟩ := two_map (w.alloc (.cells #[.int .i64 k, .int .i64 n] 44)) (w.heap.size + 1) (by simp)
 have hB2 : Below w.heap.size w W2 := (((Below.refl _ w).alloc (Nat.le_refl _) _).alloc (by simp) _).grown hgrow (by simp; omega) (fun j hj => by cases hj; omega)
 have hb0 : W2.heap[w.heap.size]? = some (.cells #[.int .i64 k, .int .i64 n] 44 (0, 0)) := by
  rw [hgrow.block w.heap.size (by simp; omega) (by simp)]
  exact blk_alloc (heap_alloc_new _ _) _
 have hc0 := (blk_cell hb0 0).trans rfl
 have hc1 := (blk_cell hb0 1).trans rfl
 have hwith := fun X => columns_within.calls 0 m (some ⟨X.heap.size, 0, none⟩) 1 [n] (!(outside 0 m n)) (X.alloc (.cells #[.int .i64 n] 2)) (C_lit1 X n) (Nat.le_refl _) (by simp [columns_within.f])
 obtain ⟨c, hlk, hat, _⟩ := hown.lookup_int key3 Try.underlying105 Try.underlying2 (zero2 _) (keyOf_int_mk (a := k) Try.underlying3 (by rcases (show k = 0 ∨ k = 1 ∨ k = 2 by omega) with rfl | rfl | rfl <;> decide))
 obtain rfl := h c hat
 have HB := Aside0.mk hB2
 clear hB2 hb0 hgrow hown hat h
 obtain rfl | rfl | rfl : k = 0 ∨ k = 1 ∨ k = 2 := by omega
 all_goals
  go_enter Try.func28, Try.ntmps28
  go_wp2_with (go_at_call 31; refine (hwith _).mono ?_; rintro e w' ⟨rfl, hb⟩; have HB2 := Aside0.mk (below_step (HB.out.alloc HB.out.size _) hb); clear hb)
  go_ret
  exact ⟨rfl, HB2.out⟩


theorem isSize_calls (k n : Int) (w : World) : Calls Try.prog 28 #[.agg #[.int .i64 k, .int .i64 n]] w fun e w' => e = .returned (.bool (goodSize k n)) ∧ Below w.heap.size w w' := by
 by_cases h0 : k = 0
 ·subst h0
  exact size_way 0 n 0 (by omega) w (fun c h => by rw [most0] at h; simpa using h.symm)
 by_cases h1 : k = 1
 ·subst h1
  exact size_way 1 n 1073741824 (by omega) w (fun c h => by rw [most1] at h; simpa using h.symm)
 by_cases h2 : k = 2
 ·subst h2
  exact size_way 2 n 10000000 (by omega) w (fun c h => by rw [most2] at h; simpa using h.symm)
 have hg : goodSize k n = false := by unfold goodSize; rw [if_neg h0, if_neg h1, if_neg h2]
 rw [hg]
 have b0 : (k == 0) = false := beq_eq_false_iff_ne.mpr h0
 have b1 : (k == 1) = false := beq_eq_false_iff_ne.mpr h1
 have b2 : (k == 2) = false := beq_eq_false_iff_ne.mpr h2
 go_enter Try.func28, Try.ntmps28
 go_wp2
 go_ret
 exact ⟨rfl, (Below.refl _ w).alloc (Nat.le_refl _) _⟩
theorem right1_calls (k n : Int) (w : World) : Calls Try.prog 27 #[.agg #[.int .i64 k, .int .i64 n]] w fun e w' => e = .returned (.bool (!goodSize k n)) ∧ Below w.heap.size w w' := by
 have h := fun W => isSize_calls k n W
 go_enter Try.func27, Try.ntmps27
 go_wp2_with (go_at_call 28; refine (h _).mono ?_; rintro e w' ⟨rfl, hb⟩; have HB := Aside0.mk (below_step ((Below.refl _ w).alloc (Nat.le_refl _) _) hb); clear hb)
 go_ret
 exact ⟨rfl, HB.out⟩
/-- A need that is not right, where there are n sizes. -/
def needAt (n f2 f4 : Int) : Bool := decide (0 ≤ f2) && decide (f2 < n) && decide (1 ≤ f4) && decide (f4 ≤ n - f2)
def badNeed9 (n f2 f4 f5 f6 f7 f8 : Int) : Bool := !needAt n f2 f4 || !goodSize f7 f8 || (outside 0 1125899906842623 f5 || outside 0 1125899906842623 f6) || decide (f5 > f6)
set_option maxRecDepth 100000 in
set_option maxHeartbeats 4000000 in
theorem need_calls (f0 f1 f2 f3 f4 f5 f6 f7 f8 : Int) (A : Option Addr) (n c B : Nat) (W : World) (hn : n ≤ 9223372036854775807) (hb : W.cell? ⟨B, 0, none⟩ = some (.slice A n c)) :
  Calls Try.prog 30 #[.agg #[.int .i64 f0, .int .i64 f1, .int .i64 f2, .int .i64 f3, .int .i64 f4, .int .i64 f5, .int .i64 f6, .int .i64 f7, .int .i64 f8], .pointer (some ⟨B, 0, none⟩)] W fun e w' => e = .returned (.bool (badNeed9 n f2 f4 f5 f6 f7 f8)) ∧ Below W.heap.size W w' := by
 have hs := fun X => isSize_calls f7 f8 X
 have hw := fun X => columns_within.calls 0 1125899906842623 (some ⟨X.heap.size, 0, none⟩) 2 [f5, f6] (!(outside 0 1125899906842623 f5 || outside 0 1125899906842623 f6)) (X.alloc (.cells #[.int .i64 f5, .int .i64 f6] 2)) (C_pair X f5 f6) (Nat.le_refl _) (by simp [columns_within.f])
 have hW1 : Below W.heap.size W (W.alloc (.cells #[.int .i64 f0, .int .i64 f1, .int .i64 f2, .int .i64 f3, .int .i64 f4, .int .i64 f5, .int .i64 f6, .int .i64 f7, .int .i64 f8] 53)) := (Below.refl _ W).alloc (Nat.le_refl _) _
 obtain ⟨W2, hW2⟩ : ∃ W2, (W.alloc (.cells #[.int .i64 f0, .int .i64 f1, .int .i64 f2, .int .i64 f3, .int .i64 f4, .int .i64 f5, .int .i64 f6, .int .i64 f7, .int .i64 f8] 53)).alloc (.cells #[.int .i64 f0, .int .i64 f1, .int .i64 f2, .int .i64 f3, .int .i64 f4] 51) = W2 := ⟨_, rfl⟩
 have hB2 : Below W.heap.size W W2 := by rw [← hW2]; exact hW1.alloc (by simp) _
 have k0 : W2.heap[W.heap.size]? = some (.cells #[.int .i64 f0, .int .i64 f1, .int .i64 f2, .int .i64 f3, .int .i64 f4, .int .i64 f5, .int .i64 f6, .int .i64 f7, .int .i64 f8] 53 (0, 0)) := by rw [← hW2]; exact blk_alloc (heap_alloc_new _ _) _
 have hsz : W.heap.size < W2.heap.size := by rw [← hW2]; simp; omega
 have hk : ∀ w', Below W2.heap.size W2 w' → Below W.heap.size W w' ∧ w'.cell? ⟨W.heap.size, 5, none⟩ = some (.int .i64 f5) ∧ w'.cell? ⟨W.heap.size, 6, none⟩ = some (.int .i64 f6) := by
  intro w' hb
  have hx := (hb.block W.heap.size hsz).trans k0
  exact ⟨below_step hB2 hb, (blk_cell hx 5).trans rfl, (blk_cell hx 6).trans rfl⟩
 have HK := Lib.hid hk
 have hbx : W2.cell? ⟨B, 0, none⟩ = some (.slice A n c) := (hB2.cell (p := ⟨B, 0, none⟩) (World.block_lt_of_cell? W _ hb)).trans hb
 clear hb
 have hB2' : Below W.heap.size W ((W.alloc (.cells #[.int .i64 f0, .int .i64 f1, .int .i64 f2, .int .i64 f3, .int .i64 f4, .int .i64 f5, .int .i64 f6, .int .i64 f7, .int .i64 f8] 53)).alloc (.cells #[.int .i64 f0, .int .i64 f1, .int .i64 f2, .int .i64 f3, .int .i64 f4] 51)) := hW2 ▸ hB2
 have HB2 := Aside0.mk hB2'
 subst hW2
 clear hk hW1 hB2 hB2' k0 hsz
 by_cases h1 : 0 ≤ f2
 case neg =>
  have e : badNeed9 n f2 f4 f5 f6 f7 f8 = true := by simp [badNeed9, needAt, h1]
  rw [e]
  have d1 : decide (f2 ≥ 0) = false := decide_eq_false (by omega)
  go_enter Try.func30, Try.ntmps30
  go_wp2
  (first | (refine bodyPost_ret (results_tmp (fn := Try.f30) rfl _ _ _) rfl ?_))
  exact ⟨rfl, HB2.out⟩
 by_cases h2 : f2 < (n : Int)
 case neg =>
  have e : badNeed9 n f2 f4 f5 f6 f7 f8 = true := by simp [badNeed9, needAt, h1, h2]
  rw [e]
  have d1 : decide (f2 ≥ 0) = true := decide_eq_true (by omega)
  have d2 : decide (f2 < (n : Int)) = false := decide_eq_false (by omega)
  go_enter Try.func30, Try.ntmps30
  go_wp2
  (first | (refine bodyPost_ret (results_tmp (fn := Try.f30) rfl _ _ _) rfl ?_))
  exact ⟨rfl, HB2.out⟩
 by_cases h3 : 1 ≤ f4
 case neg =>
  have e : badNeed9 n f2 f4 f5 f6 f7 f8 = true := by simp [badNeed9, needAt, h1, h2, h3]
  rw [e]
  have d1 : decide (f2 ≥ 0) = true := decide_eq_true (by omega)
  have d2 : decide (f2 < (n : Int)) = true := decide_eq_true (by omega)
  have d3 : decide (f4 ≥ 1) = false := decide_eq_false (by omega)
  go_enter Try.func30, Try.ntmps30
  go_wp2
  (first | (refine bodyPost_ret (results_tmp (fn := Try.f30) rfl _ _ _) rfl ?_))
  exact ⟨rfl, HB2.out⟩
 by_cases h4 : f4 ≤ (n : Int) - f2
 case neg =>
  have e : badNeed9 n f2 f4 f5 f6 f7 f8 = true := by simp [badNeed9, needAt, h1, h2, h3, h4]
  rw [e]
  have d1 : decide (f2 ≥ 0) = true := decide_eq_true (by omega)
  have d2 : decide (f2 < (n : Int)) = true := decide_eq_true (by omega)
  have d3 : decide (f4 ≥ 1) = true := decide_eq_true (by omega)
  have d4 : decide (f4 ≤ (n : Int) - f2) = false := decide_eq_false (by omega)
  go_enter Try.func30, Try.ntmps30
  go_wp2
  (first | (refine bodyPost_ret (results_tmp (fn := Try.f30) rfl _ _ _) rfl ?_))
  exact ⟨rfl, HB2.out⟩
 have d1 : decide (f2 ≥ 0) = true := decide_eq_true (by omega)
 have d2 : decide (f2 < (n : Int)) = true := decide_eq_true (by omega)
 have d3 : decide (f4 ≥ 1) = true := decide_eq_true (by omega)
 have d4 : decide (f4 ≤ (n : Int) - f2) = true := decide_eq_true (by omega)
 have hna : needAt n f2 f4 = true := by simp [needAt, h1, h2, h3, h4]
 cases hg : goodSize f7 f8 with
 | false =>
  have e : badNeed9 n f2 f4 f5 f6 f7 f8 = true := by simp [badNeed9, hna, hg]
  rw [e]
  rw [hg] at hs
  go_enter Try.func30, Try.ntmps30
  go_wp2_with (first | (go_at_call 28; refine (hs _).mono ?_; rintro e w1 ⟨rfl, hb1⟩; have HB1 := Aside0.mk hb1; obtain ⟨hb2, hc5, hc6⟩ := HK.out _ hb1; have HB3 := Aside0.mk hb2; clear hb1 hb2))
  (first | (refine bodyPost_ret (results_tmp (fn := Try.f30) rfl _ _ _) rfl ?_))
  exact ⟨rfl, HB3.out⟩
 | true =>
  rw [hg] at hs
  cases hq : (outside 0 1125899906842623 f5 || outside 0 1125899906842623 f6) with
  | true =>
   have e : badNeed9 n f2 f4 f5 f6 f7 f8 = true := by unfold badNeed9; rw [hq]; simp
   rw [e]
   rw [hq] at hw
   go_enter Try.func30, Try.ntmps30
   go_wp2_with (first | (go_at_call 28; refine (hs _).mono ?_; rintro e w1 ⟨rfl, hb1⟩; have HB1 := Aside0.mk hb1; obtain ⟨hb2, hc5, hc6⟩ := HK.out _ hb1; have HB3 := Aside0.mk hb2; clear hb1 hb2) | (go_at_call 31; refine (hw _).mono ?_; rintro e w2 ⟨rfl, hb4⟩; have hb5 := below_step (HB1.out.alloc HB1.out.size _) hb4; obtain ⟨hb6, hd5, hd6⟩ := HK.out _ hb5; have HB6 := Aside0.mk hb6; clear hb4 hb5 hb6))
   (first | (refine bodyPost_ret (results_tmp (fn := Try.f30) rfl _ _ _) rfl ?_))
   exact ⟨rfl, HB6.out⟩
  | false =>
   rw [hq] at hw
   have e : badNeed9 n f2 f4 f5 f6 f7 f8 = decide (f5 > f6) := by unfold badNeed9; rw [hq, hna, hg]; simp
   rw [e]
   go_enter Try.func30, Try.ntmps30
   go_wp2_with (first | (go_at_call 28; refine (hs _).mono ?_; rintro e w1 ⟨rfl, hb1⟩; have HB1 := Aside0.mk hb1; obtain ⟨hb2, hc5, hc6⟩ := HK.out _ hb1; have HB3 := Aside0.mk hb2; clear hb1 hb2) | (go_at_call 31; refine (hw _).mono ?_; rintro e w2 ⟨rfl, hb4⟩; have hb5 := below_step (HB1.out.alloc HB1.out.size _) hb4; obtain ⟨hb6, hd5, hd6⟩ := HK.out _ hb5; have HB6 := Aside0.mk hb6; clear hb4 hb5 hb6))
   (first | (refine bodyPost_ret (results_tmp (fn := Try.f30) rfl _ _ _) rfl ?_))
   exact ⟨rfl, HB6.out⟩
/-- A size, a need that is not right. -/
def badSize (s : S44) : Bool := !goodSize s.f0 s.f1
def badNeed (n : Int) (x : S53) : Bool := badNeed9 n x.f0.f2 x.f0.f4 x.f1 x.f2 x.f3.f0 x.f3.f1
theorem rd_size_nat (l : List S44) (k : Nat) (h : k < l.length) : rd_T44 l (k : Int) = l[k] := by
 unfold rd_T44
 rw [Int.toNat_natCast, List.getD_eq_getElem?_getD, List.getElem?_eq_getElem h]
 rfl
set_option maxRecDepth 100000 in
set_option maxHeartbeats 4000000 in
theorem index_size (A : Option Addr) (c : Nat) (l : List S44) (w : World) (hr : Kd.C k44 w A l.length l) :
  Calls Try.prog 57 #[.slice A l.length c, .func (.func 27) #[] #[]] w fun e w' => (∃ k : Int, e = .returned (.int .i64 k) ∧ decide (0 ≤ k) = l.any badSize) ∧ Below w.heap.size w w' := by
 have hu := Try.underlying44
 have eg : ∀ args w, (callFunc 27 args).run Try.prog w = .ok (.enter 27 args) w := enters_of Try.func27 (by kernel_rfl) rfl
 have hmax : l.length ≤ 9223372036854775807 := Kd.C_max hr
 have Hr := Lib.hid hr
 clear hr
 go_enter Try.func57, Try.ntmps57
 go_wp2
 go_loopg [5, 8] l.length (fun gg _ s8 wr => ∃ kk : Nat, kk ≤ l.length ∧ l.length - kk ≤ gg ∧ s8 = .int .i64 kk ∧ Aside0 (Below w.heap.size w wr) ∧ Aside (∀ j (h : j < l.length), j < kk → badSize l[j] = false))
 case atStart => exact ⟨0, Nat.zero_le _, by omega, rfl, ⟨Below.refl _ w⟩, fun j _ hj => absurd hj (Nat.not_lt_zero _)⟩
 case round =>
  obtain ⟨kk, hkk, hg, rfl, HB, A1⟩ := hrel
  by_cases hlt : kk < l.length
  ·have hltz : (kk : Int) < (l.length : Int) := by omega
   obtain ⟨ad, rfl, hx0, hx1⟩ := at_T44 Hr.out (kk : Int) (by omega) hltz
   rw [rd_size_nat l kk hlt, Int.toNat_natCast] at hx0 hx1
   replace hx0 := (HB.out.cell (World.block_lt_of_cell? w _ hx0)).trans hx0
   replace hx1 := (HB.out.cell (World.block_lt_of_cell? w _ hx1)).trans hx1
   have hcall := fun W (HW : Below w.heap.size w W) => right1_calls l[kk].f0 l[kk].f1 W
   change ∀ W, Below w.heap.size w W → Calls Try.prog _ _ W (fun e w' => e = .returned (.bool (badSize l[kk])) ∧ Below W.heap.size W w') at hcall
   have B := Lib.hid (rfl : badSize l[kk] = badSize l[kk])
   cases hq : badSize l[kk] with
   | true =>
    rw [hq] at hcall
    go_wp2_with (go_at_fn 27; refine (hcall _ HB.out).mono ?_; rintro e w' ⟨rfl, hb⟩; have HB2 := Aside0.mk (below_step HB.out hb))
    go_ret
    refine ⟨⟨_, rfl, ?_⟩, HB2.out⟩
    have : l.any badSize = true := List.any_eq_true.2 ⟨_, List.getElem_mem hlt, hq⟩
    rw [this]
    simp
   | false =>
    rw [hq] at hcall
    go_wp2_with (go_at_fn 27; refine (hcall _ HB.out).mono ?_; rintro e w' ⟨rfl, hb⟩; have HB2 := Aside0.mk (below_step HB.out hb))
    go_roundg (l.length - (kk + 1))
    case measure => omega
    case rel =>
     refine ⟨kk + 1, by omega, by omega, by go_num, HB2, (show Aside _ from fun j hjl hj => ?_)⟩
     by_cases e : j = kk
     ·subst e
      exact hq
     ·exact A1.out j hjl (by omega)
  ·have hltz : ¬ (kk : Int) < (l.length : Int) := by omega
   go_wp2
   go_ret
   refine ⟨⟨_, rfl, ?_⟩, HB.out⟩
   have : l.any badSize = false := by
    rw [List.any_eq_false]
    intro x hx
    obtain ⟨j, hj, e⟩ := List.mem_iff_getElem.1 hx
    rw [← e, A1.out j hj (by omega)]
    simp
   rw [this]
   rfl
theorem contains_size (A : Option Addr) (c : Nat) (l : List S44) (w : World) (hr : Kd.C k44 w A l.length l) :
  Calls Try.prog 26 #[.slice A l.length c, .func (.func 27) #[] #[]] w fun e w' => e = .returned (.bool (l.any badSize)) ∧ Below w.heap.size w w' := by
 have hi := index_size A c l w hr
 go_enter Try.func26, Try.ntmps26
 go_wp2_with (go_at_call 57; refine hi.mono ?_; rintro e w' ⟨⟨k, rfl, hk⟩, hb⟩; have HB := Aside0.mk hb; clear hb)
 go_ret
 exact ⟨by rw [← hk]; rfl, HB.out⟩
theorem rd_need_nat (l : List S53) (k : Nat) (h : k < l.length) : rd_T53 l (k : Int) = l[k] := by
 unfold rd_T53
 rw [Int.toNat_natCast, List.getD_eq_getElem?_getD, List.getElem?_eq_getElem h]
 rfl
set_option maxRecDepth 100000 in
set_option maxHeartbeats 4000000 in
theorem index_need (A : Option Addr) (c : Nat) (l : List S53) (B n n2 : Nat) (A2 : Option Addr) (w : World) (hr : Kd.C k53 w A l.length l) (hn : n ≤ 9223372036854775807) (hB : w.cell? ⟨B, 0, none⟩ = some (.slice A2 n n2)) :
  Calls Try.prog 58 #[.slice A l.length c, .func (.func 30) #[] #[.pointer (some ⟨B, 0, none⟩)]] w fun e w' => (∃ k : Int, e = .returned (.int .i64 k) ∧ decide (0 ≤ k) = l.any (badNeed n)) ∧ Below w.heap.size w w' := by
 have hu := Try.underlying53
 have eg : ∀ args w, (callFunc 30 args).run Try.prog w = .ok (.enter 30 args) w := enters_of Try.func30 (by kernel_rfl) rfl
 have hmax : l.length ≤ 9223372036854775807 := Kd.C_max hr
 have Hr := Lib.hid hr
 have HB0 := Lib.hid hB
 clear hr hB
 go_enter Try.func58, Try.ntmps58
 go_wp2
 go_loopg [5, 8] l.length (fun gg _ s8 wr => ∃ kk : Nat, kk ≤ l.length ∧ l.length - kk ≤ gg ∧ s8 = .int .i64 kk ∧ Aside0 (Below w.heap.size w wr) ∧ Aside (∀ j (h : j < l.length), j < kk → badNeed n l[j] = false))
 case atStart => exact ⟨0, Nat.zero_le _, by omega, rfl, ⟨Below.refl _ w⟩, fun j _ hj => absurd hj (Nat.not_lt_zero _)⟩
 case round =>
  obtain ⟨kk, hkk, hg, rfl, HB, A1⟩ := hrel
  by_cases hlt : kk < l.length
  ·have hltz : (kk : Int) < (l.length : Int) := by omega
   obtain ⟨ad, rfl, hx0, hx1, hx2, hx3, hx4, hx5, hx6, hx7, hx8⟩ := at_T53 Hr.out (kk : Int) (by omega) hltz
   rw [rd_need_nat l kk hlt, Int.toNat_natCast] at hx0 hx1 hx2 hx3 hx4 hx5 hx6 hx7 hx8
   replace hx0 := (HB.out.cell (World.block_lt_of_cell? w _ hx0)).trans hx0
   replace hx1 := (HB.out.cell (World.block_lt_of_cell? w _ hx1)).trans hx1
   replace hx2 := (HB.out.cell (World.block_lt_of_cell? w _ hx2)).trans hx2
   replace hx3 := (HB.out.cell (World.block_lt_of_cell? w _ hx3)).trans hx3
   replace hx4 := (HB.out.cell (World.block_lt_of_cell? w _ hx4)).trans hx4
   replace hx5 := (HB.out.cell (World.block_lt_of_cell? w _ hx5)).trans hx5
   replace hx6 := (HB.out.cell (World.block_lt_of_cell? w _ hx6)).trans hx6
   replace hx7 := (HB.out.cell (World.block_lt_of_cell? w _ hx7)).trans hx7
   replace hx8 := (HB.out.cell (World.block_lt_of_cell? w _ hx8)).trans hx8
   have hcall := fun W (HW : Below w.heap.size w W) => need_calls l[kk].f0.f0 l[kk].f0.f1 l[kk].f0.f2 l[kk].f0.f3 l[kk].f0.f4 l[kk].f1 l[kk].f2 l[kk].f3.f0 l[kk].f3.f1 A2 n n2 B W hn ((HW.cell (World.block_lt_of_cell? w _ HB0.out)).trans HB0.out)
   change ∀ W, Below w.heap.size w W → Calls Try.prog _ _ W (fun e w' => e = .returned (.bool (badNeed n l[kk])) ∧ Below W.heap.size W w') at hcall
   have B := Lib.hid (rfl : badNeed n l[kk] = badNeed n l[kk])
   cases hq : badNeed n l[kk] with
   | true =>
    rw [hq] at hcall
    go_wp2_with (go_at_fn 30; refine (hcall _ HB.out).mono ?_; rintro e w' ⟨rfl, hb⟩; have HB2 := Aside0.mk (below_step HB.out hb))
    go_ret
    refine ⟨⟨_, rfl, ?_⟩, HB2.out⟩
    have : l.any (badNeed n) = true := List.any_eq_true.2 ⟨_, List.getElem_mem hlt, hq⟩
    rw [this]
    simp
   | false =>
    rw [hq] at hcall
    go_wp2_with (go_at_fn 30; refine (hcall _ HB.out).mono ?_; rintro e w' ⟨rfl, hb⟩; have HB2 := Aside0.mk (below_step HB.out hb))
    go_roundg (l.length - (kk + 1))
    case measure => omega
    case rel =>
     refine ⟨kk + 1, by omega, by omega, by go_num, HB2, (show Aside _ from fun j hjl hj => ?_)⟩
     by_cases e : j = kk
     ·subst e
      exact hq
     ·exact A1.out j hjl (by omega)
  ·have hltz : ¬ (kk : Int) < (l.length : Int) := by omega
   go_wp2
   go_ret
   refine ⟨⟨_, rfl, ?_⟩, HB.out⟩
   have : l.any (badNeed n) = false := by
    rw [List.any_eq_false]
    intro x hx
    obtain ⟨j, hj, e⟩ := List.mem_iff_getElem.1 hx
    rw [← e, A1.out j hj (by omega)]
    simp
   rw [this]
   rfl
theorem contains_need (A : Option Addr) (c : Nat) (l : List S53) (B n n2 : Nat) (A2 : Option Addr) (w : World) (hr : Kd.C k53 w A l.length l) (hn : n ≤ 9223372036854775807) (hB : w.cell? ⟨B, 0, none⟩ = some (.slice A2 n n2)) :
  Calls Try.prog 29 #[.slice A l.length c, .func (.func 30) #[] #[.pointer (some ⟨B, 0, none⟩)]] w fun e w' => e = .returned (.bool (l.any (badNeed n))) ∧ Below w.heap.size w w' := by
 have hi := index_need A c l B n n2 A2 w hr hn hB
 go_enter Try.func29, Try.ntmps29
 go_wp2_with (go_at_call 58; refine hi.mono ?_; rintro e w' ⟨⟨k, rfl, hk⟩, hb⟩; have HB := Aside0.mk hb; clear hb)
 go_ret
 exact ⟨by rw [← hk]; rfl, HB.out⟩
def columns_Right.f (l0 : List S44) (l1 : List S53) : Option Bool := some (decide (l0.length ≤ 10000) && !(l0.any badSize) && !(l1.any (badNeed l0.length)))
set_option maxRecDepth 100000 in
set_option maxHeartbeats 2000000 in
theorem columns_Right.calls (A0 : Option Addr) (c0 : Nat) (l0 : List S44) (A1 : Option Addr) (c1 : Nat) (l1 : List S53) (r : Bool) (w : World) (hr0 : Kd.C k44 w A0 l0.length l0) (hc0 : l0.length ≤ c0) (hr1 : Kd.C k53 w A1 l1.length l1) (hc1 : l1.length ≤ c1) (h : columns_Right.f l0 l1 = some r) :
  Calls Try.prog 12 #[.slice A0 l0.length c0, .slice A1 l1.length c1] w fun e w' => e = .returned (.bool r) ∧ Below w.heap.size w w' := by
 unfold columns_Right.f at h
 obtain rfl := Option.some.inj h
 clear h
 have hmax : l0.length ≤ 9223372036854775807 := Kd.C_max hr0
 obtain ⟨W1, hW1⟩ : ∃ W1, w.alloc (.cells #[.slice A0 l0.length c0] 22) = W1 := ⟨_, rfl⟩
 have hB1 : Below w.heap.size w W1 := by rw [← hW1]; exact (Below.refl _ w).alloc (Nat.le_refl _) _
 have hcon := contains_size A0 c0 l0 W1 (Kd.C_below hr0 hB1)
 have hbx : W1.cell? ⟨w.heap.size, 0, none⟩ = some (.slice A0 l0.length c0) := by rw [← hW1]; exact (blk_cell (heap_alloc_new w _) 0).trans rfl
 have hlt : w.heap.size < W1.heap.size := by rw [← hW1]; simp
 have hcon2 : ∀ W2, Below W1.heap.size W1 W2 → Calls Try.prog 29 #[.slice A1 l1.length c1, .func (.func 30) #[] #[.pointer (some ⟨w.heap.size, 0, none⟩)]] W2 fun e w' => e = .returned (.bool (l1.any (badNeed l0.length))) ∧ Below W2.heap.size W2 w' := fun W2 h2 =>
  contains_need A1 c1 l1 w.heap.size l0.length c0 A0 W2 (Kd.C_below hr1 (below_step hB1 h2)) hmax ((h2.cell (p := ⟨w.heap.size, 0, none⟩) hlt).trans hbx)
 have HC2 := Lib.hid hcon2
 have HB1 := Aside0.mk hB1
 subst hW1
 clear hcon2 hB1 hbx hlt hr0 hr1
 by_cases hl : l0.length ≤ 10000
 case neg =>
  rw [show decide (l0.length ≤ 10000) = false from decide_eq_false hl, Bool.false_and, Bool.false_and]
  have hlz : (l0.length : Int) > 10000 := by omega
  clear hl
  go_enter Try.func12, Try.ntmps12
  go_wp2
  go_ret
  exact ⟨rfl, HB1.out⟩
 rw [show decide (l0.length ≤ 10000) = true from decide_eq_true hl, Bool.true_and]
 have hlz : ¬ (l0.length : Int) > 10000 := by omega
 clear hl
 cases hs : l0.any badSize with
 | true =>
  rw [hs] at hcon
  rw [Bool.not_true, Bool.false_and]
  go_enter Try.func12, Try.ntmps12
  go_wp2_with (go_at_call 26; refine hcon.mono ?_; rintro e w' ⟨rfl, hb⟩; have HB := Aside0.mk hb; clear hb)
  go_ret
  exact ⟨rfl, below_step HB1.out HB.out⟩
 | false =>
  rw [hs] at hcon
  rw [Bool.not_false, Bool.true_and]
  go_enter Try.func12, Try.ntmps12
  go_wp2_with (first | (go_at_call 26; refine hcon.mono ?_; rintro e w' ⟨rfl, hb⟩; have HB := Aside0.mk hb; clear hb) | (go_at_call 29; refine (HC2.out _ HB.out).mono ?_; rintro e w' ⟨rfl, hb⟩; have HBb := Aside0.mk hb; clear hb))
  go_ret
  exact ⟨rfl, below_step (below_step HB1.out HB.out) HBb.out⟩
end

end Go.Proofs.Ytpoboffdlnnbmaa.PA
