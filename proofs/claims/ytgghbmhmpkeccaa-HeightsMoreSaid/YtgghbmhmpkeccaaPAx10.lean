-- MADE by wip/tools/xprint.py of this repo: the kit's print.py, turned by this session, and texts by hand
import Derived.Test.YtgghbmhmpkeccaaPAx0
import Derived.Test.YtgghbmhmpkeccaaPAx6
import Derived.Test.YtgghbmhmpkeccaaPAx7
import Derived.Test.YtgghbmhmpkeccaaPAx8
import Derived.Test.YtgghbmhmpkeccaaPAx9
namespace Go.Proofs.Ytgghbmhmpkeccaa.PA
open Go.RowKit Go.Proofs.YtgghbmhmpkeccaaW.PrintWords Go.Proofs.YtgghbmhmpkeccaaW.PrintLast Go.Proofs.YtgghbmhmpkeccaaW.PrintMore
attribute [local go_sem] max2_int min2_int max_two min_two max_three min_three max_four min_four   -- for this text's walks alone
set_option linter.unusedVariables false
set_option linter.unusedSimpArgs false

-- BY HAND: hright.tpl
-- MAKING heights_Right
section
open Go.RowKit Go.Shelf Go.Maps Go.Proofs.YtgghbmhmpkeccaaW.PrintWords Go.Proofs.YtgghbmhmpkeccaaW.PrintLast Go.Proofs.YtgghbmhmpkeccaaW.PrintMore
/-- A place that is not within n rows. -/
def offRow (n f1 f3 : Int) : Bool := decide (f1 < 0) || decide (f1 ≥ n) || decide (f3 < 1) || decide (f3 > n - f1)
def badPlace (n : Int) (p : S35) : Bool := offRow n p.f1 p.f3
set_option maxRecDepth 100000 in
set_option maxHeartbeats 4000000 in
theorem place_calls (f0 f1 f2 f3 f4 : Int) (A : Option Addr) (n c B : Nat) (W : World) (hn : n ≤ 9223372036854775807) (hb : W.cell? ⟨B, 0, none⟩ = some (.slice A n c)) :
  Calls Try.prog 24 #[.agg #[.int .i64 f0, .int .i64 f1, .int .i64 f2, .int .i64 f3, .int .i64 f4], .pointer (some ⟨B, 0, none⟩)] W fun e w' => e = .returned (.bool (offRow n f1 f3)) ∧ Below W.heap.size W w' := by
 have hB2 : Below W.heap.size W (W.alloc (.cells #[.int .i64 f0, .int .i64 f1, .int .i64 f2, .int .i64 f3, .int .i64 f4] 35)) := (Below.refl _ W).alloc (Nat.le_refl _) _
 have hbx : (W.alloc (.cells #[.int .i64 f0, .int .i64 f1, .int .i64 f2, .int .i64 f3, .int .i64 f4] 35)).cell? ⟨B, 0, none⟩ = some (.slice A n c) := (hB2.cell (p := ⟨B, 0, none⟩) (World.block_lt_of_cell? W _ hb)).trans hb
 clear hb
 have HB2 := Aside0.mk hB2
 clear hB2
 by_cases h1 : f1 < 0
 ·have d1 : decide (f1 < 0) = true := decide_eq_true h1
  rw [show offRow n f1 f3 = true by simp [offRow, h1]]
  go_enter Try.func24, Try.ntmps24
  go_wp2
  (first | (refine bodyPost_ret (results_tmp (fn := Try.f24) rfl _ _ _) rfl ?_))
  exact ⟨rfl, HB2.out⟩
 have d1 : decide (f1 < 0) = false := decide_eq_false h1
 by_cases h2 : f1 ≥ (n : Int)
 ·have d2 : decide (f1 ≥ (n : Int)) = true := decide_eq_true h2
  rw [show offRow n f1 f3 = true by simp [offRow, h2]]
  go_enter Try.func24, Try.ntmps24
  go_wp2
  (first | (refine bodyPost_ret (results_tmp (fn := Try.f24) rfl _ _ _) rfl ?_))
  exact ⟨rfl, HB2.out⟩
 have d2 : decide (f1 ≥ (n : Int)) = false := decide_eq_false h2
 by_cases h3 : f3 < 1
 ·have d3 : decide (f3 < 1) = true := decide_eq_true h3
  rw [show offRow n f1 f3 = true by simp [offRow, h3]]
  go_enter Try.func24, Try.ntmps24
  go_wp2
  (first | (refine bodyPost_ret (results_tmp (fn := Try.f24) rfl _ _ _) rfl ?_))
  exact ⟨rfl, HB2.out⟩
 have d3 : decide (f3 < 1) = false := decide_eq_false h3
 rw [show offRow n f1 f3 = decide (f3 > (n : Int) - f1) by simp only [offRow, d1, d2, d3, Bool.false_or]]
 go_enter Try.func24, Try.ntmps24
 go_wp2
 (first | (refine bodyPost_ret (results_tmp (fn := Try.f24) rfl _ _ _) rfl ?_))
 exact ⟨rfl, HB2.out⟩
theorem rd_place_nat (l : List S35) (k : Nat) (h : k < l.length) : rd_T35 l (k : Int) = l[k] := by
 unfold rd_T35
 rw [Int.toNat_natCast, List.getD_eq_getElem?_getD, List.getElem?_eq_getElem h]
 rfl
set_option maxRecDepth 100000 in
set_option maxHeartbeats 4000000 in
theorem index_place (A : Option Addr) (c : Nat) (l : List S35) (B n n2 : Nat) (A2 : Option Addr) (w : World) (hr : Kd.C k35 w A l.length l) (hn : n ≤ 9223372036854775807) (hB : w.cell? ⟨B, 0, none⟩ = some (.slice A2 n n2)) :
  Calls Try.prog 45 #[.slice A l.length c, .func (.func 24) #[] #[.pointer (some ⟨B, 0, none⟩)]] w fun e w' => (∃ k : Int, e = .returned (.int .i64 k) ∧ decide (0 ≤ k) = l.any (badPlace n)) ∧ Below w.heap.size w w' := by
 have hu := Try.underlying35
 have eg : ∀ args w, (callFunc 24 args).run Try.prog w = .ok (.enter 24 args) w := enters_of Try.func24 (by kernel_rfl) rfl
 have hmax : l.length ≤ 9223372036854775807 := Kd.C_max hr
 have Hr := Lib.hid hr
 have HB0 := Lib.hid hB
 clear hr hB
 go_enter Try.func45, Try.ntmps45
 go_wp2
 go_loopg [5, 8] l.length (fun gg _ s8 wr => ∃ kk : Nat, kk ≤ l.length ∧ l.length - kk ≤ gg ∧ s8 = .int .i64 kk ∧ Aside0 (Below w.heap.size w wr) ∧ Aside (∀ j (h : j < l.length), j < kk → badPlace n l[j] = false))
 case atStart => exact ⟨0, Nat.zero_le _, by omega, rfl, ⟨Below.refl _ w⟩, fun j _ hj => absurd hj (Nat.not_lt_zero _)⟩
 case round =>
  obtain ⟨kk, hkk, hg, rfl, HB, A1⟩ := hrel
  by_cases hlt : kk < l.length
  ·have hltz : (kk : Int) < (l.length : Int) := by omega
   obtain ⟨ad, rfl, hx0, hx1, hx2, hx3, hx4⟩ := at_T35 Hr.out (kk : Int) (by omega) hltz
   rw [rd_place_nat l kk hlt, Int.toNat_natCast] at hx0 hx1 hx2 hx3 hx4
   replace hx0 := (HB.out.cell (World.block_lt_of_cell? w _ hx0)).trans hx0
   replace hx1 := (HB.out.cell (World.block_lt_of_cell? w _ hx1)).trans hx1
   replace hx2 := (HB.out.cell (World.block_lt_of_cell? w _ hx2)).trans hx2
   replace hx3 := (HB.out.cell (World.block_lt_of_cell? w _ hx3)).trans hx3
   replace hx4 := (HB.out.cell (World.block_lt_of_cell? w _ hx4)).trans hx4
   have hcall := fun W (HW : Below w.heap.size w W) => place_calls l[kk].f0 l[kk].f1 l[kk].f2 l[kk].f3 l[kk].f4 A2 n n2 B W hn ((HW.cell (World.block_lt_of_cell? w _ HB0.out)).trans HB0.out)
   change ∀ W, Below w.heap.size w W → Calls Try.prog _ _ W (fun e w' => e = .returned (.bool (badPlace n l[kk])) ∧ Below W.heap.size W w') at hcall
   have B := Lib.hid (rfl : badPlace n l[kk] = badPlace n l[kk])
   cases hq : badPlace n l[kk] with
   | true =>
    rw [hq] at hcall
    go_wp2_with (go_at_fn 24; refine (hcall _ HB.out).mono ?_; rintro e w' ⟨rfl, hb⟩; have HB2 := Aside0.mk (below_step HB.out hb))
    go_ret
    refine ⟨⟨_, rfl, ?_⟩, HB2.out⟩
    have : l.any (badPlace n) = true := List.any_eq_true.2 ⟨_, List.getElem_mem hlt, hq⟩
    rw [this]
    simp
   | false =>
    rw [hq] at hcall
    go_wp2_with (go_at_fn 24; refine (hcall _ HB.out).mono ?_; rintro e w' ⟨rfl, hb⟩; have HB2 := Aside0.mk (below_step HB.out hb))
    go_roundg (l.length - (kk + 1))
    case measure => omega
    case rel =>
     refine ⟨kk + 1, by omega, by omega, by go_num, HB2, (show Aside _ from fun j hjl hj => ?_)⟩
     by_cases e : j = kk
     ·subst e
      exact hq
     ·exact A1.out j hjl (by omega)
  ·have hltz : ¬ (kk : Int) < (l.length : Int) := by omega
   go_wp2
   go_ret
   refine ⟨⟨_, rfl, ?_⟩, HB.out⟩
   have : l.any (badPlace n) = false := by
    rw [List.any_eq_false]
    intro x hx
    obtain ⟨j, hj, e⟩ := List.mem_iff_getElem.1 hx
    rw [← e, A1.out j hj (by omega)]
    simp
   rw [this]
   rfl
theorem contains_place (A : Option Addr) (c : Nat) (l : List S35) (B n n2 : Nat) (A2 : Option Addr) (w : World) (hr : Kd.C k35 w A l.length l) (hn : n ≤ 9223372036854775807) (hB : w.cell? ⟨B, 0, none⟩ = some (.slice A2 n n2)) :
  Calls Try.prog 23 #[.slice A l.length c, .func (.func 24) #[] #[.pointer (some ⟨B, 0, none⟩)]] w fun e w' => e = .returned (.bool (l.any (badPlace n))) ∧ Below w.heap.size w w' := by
 have hi := index_place A c l B n n2 A2 w hr hn hB
 go_enter Try.func23, Try.ntmps23
 go_wp2_with (go_at_call 45; refine hi.mono ?_; rintro e w' ⟨⟨k, rfl, hk⟩, hb⟩; have HB := Aside0.mk hb; clear hb)
 go_ret
 exact ⟨by rw [← hk]; rfl, HB.out⟩
/-- Rows and cells that are right. -/
def rightH (l0 : List Int) (l1 : List S35) (l2 : List Int) (a3 : Int) : Bool := decide (l0.length ≤ 10000) && !(l0.any (offBounds (-1) 1073741824)) && decide (l1.length = l2.length) && !(l2.any (offBounds 0 1125899906842623)) && !(lenBad a3) && !(l1.any (badPlace l0.length))
def heights_Right.f (l0 : List Int) (l1 : List S35) (l2 : List Int) (a3 : Int) : Option Bool := some (rightH l0 l1 l2 a3)
set_option maxRecDepth 100000 in
set_option maxHeartbeats 4000000 in
theorem heights_Right.calls (A0 : Option Addr) (c0 : Nat) (l0 : List Int) (A1 : Option Addr) (c1 : Nat) (l1 : List S35) (A2 : Option Addr) (c2 : Nat) (l2 : List Int) (a3 : Int) (r : Bool) (w : World) (hr0 : Kd.C (Kd.int .i64) w A0 l0.length l0) (hc0 : l0.length ≤ c0) (hr1 : Kd.C k35 w A1 l1.length l1) (hc1 : l1.length ≤ c1) (hr2 : Kd.C (Kd.int .i64) w A2 l2.length l2) (hc2 : l2.length ≤ c2) (h : heights_Right.f l0 l1 l2 a3 = some r) :
  Calls Try.prog 10 #[.slice A0 l0.length c0, .slice A1 l1.length c1, .slice A2 l2.length c2, .int .i64 a3] w fun e w' => e = .returned (.bool r) ∧ Below w.heap.size w w' := by
 unfold heights_Right.f rightH at h
 obtain rfl := Option.some.inj h
 clear h
 have hmax : l0.length ≤ 9223372036854775807 := Kd.C_max hr0
 obtain ⟨W1, hW1⟩ : ∃ W1, w.alloc (.cells #[.slice A0 l0.length c0] 22) = W1 := ⟨_, rfl⟩
 have hB1 : Below w.heap.size w W1 := by rw [← hW1]; exact (Below.refl _ w).alloc (Nat.le_refl _) _
 have hbx : W1.cell? ⟨w.heap.size, 0, none⟩ = some (.slice A0 l0.length c0) := by rw [← hW1]; exact (blk_cell (heap_alloc_new w _) 0).trans rfl
 have hlt : w.heap.size < W1.heap.size := by rw [← hW1]; simp
 have hwants := heights_areWants.calls A0 c0 l0 _ W1 (Kd.C_below hr0 hB1) hc0 (show heights_areWants.f l0 = some (decide (l0.length ≤ 10000) && !(l0.any (offBounds (-1) 1073741824))) by
  unfold heights_areWants.f heights_within.f
  by_cases hl : l0.length ≤ 10000
  ·rw [if_pos (by omega), decide_eq_true hl, Bool.true_and]; rfl
  ·rw [if_neg (by omega), decide_eq_false hl, Bool.false_and])
 have hwith : ∀ W2, Below W1.heap.size W1 W2 → Calls Try.prog 21 #[.int .i64 0, .int .i64 1125899906842623, .slice A2 l2.length c2] W2 fun e w' => e = .returned (.bool (!(l2.any (offBounds 0 1125899906842623)))) ∧ Below W2.heap.size W2 w' := fun W2 h2 =>
  heights_within.calls 0 1125899906842623 A2 c2 l2 _ W2 (Kd.C_below hr2 (below_step hB1 h2)) hc2 rfl
 have hedge : ∀ W2, Calls Try.prog 22 #[.slice none 0 0, .int .i64 a3] W2 fun e w' => e = .returned (.bool (!(lenBad a3))) ∧ Below W2.heap.size W2 w' := fun W2 =>
  edges_Right.calls none 0 [] a3 _ W2 (Kd.C_nil (Kd.int .i64) W2) (Nat.le_refl _) (by unfold edges_Right.f edges_areLengths.f; cases hl_ : lenBad a3 <;> simp [hl_])
 have hpl : ∀ W2, Below W1.heap.size W1 W2 → Calls Try.prog 23 #[.slice A1 l1.length c1, .func (.func 24) #[] #[.pointer (some ⟨w.heap.size, 0, none⟩)]] W2 fun e w' => e = .returned (.bool (l1.any (badPlace l0.length))) ∧ Below W2.heap.size W2 w' := fun W2 h2 =>
  contains_place A1 c1 l1 w.heap.size l0.length c0 A0 W2 (Kd.C_below hr1 (below_step hB1 h2)) hmax ((h2.cell (p := ⟨w.heap.size, 0, none⟩) hlt).trans hbx)
 have HW := Lib.hid hwith
 have HP := Lib.hid hpl
 have HB1 := Aside0.mk hB1
 subst hW1
 clear hwith hpl hB1 hbx hlt hr0 hr1 hr2
 cases hs1 : (decide (l0.length ≤ 10000) && !(l0.any (offBounds (-1) 1073741824))) with
 | false =>
  rw [hs1] at hwants
  simp only [Bool.false_and]
  go_enter Try.func10, Try.ntmps10
  go_wp2_with (go_at_call 20; refine hwants.mono ?_; rintro e w1 ⟨rfl, hb⟩; have HB2 := Aside0.mk hb; clear hb)
  go_ret
  exact ⟨rfl, below_step HB1.out HB2.out⟩
 | true =>
 rw [hs1] at hwants
 by_cases hl : l1.length = l2.length
 case neg =>
  have hlz : ¬ (l1.length : Int) = (l2.length : Int) := by omega
  have hlb : ((l1.length : Int) == (l2.length : Int)) = false := beq_eq_false_iff_ne.mpr hlz
  simp only [decide_eq_false hl, Bool.true_and, Bool.false_and]
  clear hl
  go_enter Try.func10, Try.ntmps10
  go_wp2_with (go_at_call 20; refine hwants.mono ?_; rintro e w1 ⟨rfl, hb⟩; have HB2 := Aside0.mk hb; clear hb)
  go_ret
  exact ⟨rfl, below_step HB1.out HB2.out⟩
 have hlz : (l1.length : Int) = (l2.length : Int) := by omega
 have hlb : ((l1.length : Int) == (l2.length : Int)) = true := beq_iff_eq.mpr hlz
 simp only [decide_eq_true hl, Bool.true_and]
 clear hl
 cases hs2 : (l2.any (offBounds 0 1125899906842623)) with
 | true =>
  rw [hs2] at HW
  simp only [Bool.not_true, Bool.false_and]
  go_enter Try.func10, Try.ntmps10
  go_wp2_with (first | (go_at_call 20; refine hwants.mono ?_; rintro e w1 ⟨rfl, hb⟩; have HB2 := Aside0.mk hb; clear hb) | (go_at_call 21; refine (HW.out _ HB2.out).mono ?_; rintro e w2 ⟨rfl, hb⟩; have HB3 := Aside0.mk (below_step HB2.out hb); clear hb))
  go_ret
  exact ⟨rfl, below_step HB1.out HB3.out⟩
 | false =>
 rw [hs2] at HW
 simp only [Bool.not_false, Bool.true_and]
 cases hs3 : lenBad a3 with
 | true =>
  rw [hs3] at hedge
  simp only [Bool.not_true, Bool.false_and]
  go_enter Try.func10, Try.ntmps10
  go_wp2_with (first | (go_at_call 20; refine hwants.mono ?_; rintro e w1 ⟨rfl, hb⟩; have HB2 := Aside0.mk hb; clear hb) | (go_at_call 21; refine (HW.out _ HB2.out).mono ?_; rintro e w2 ⟨rfl, hb⟩; have HB3 := Aside0.mk (below_step HB2.out hb); clear hb) | (go_at_call 22; refine (hedge _).mono ?_; rintro e w3 ⟨rfl, hb⟩; have HB4 := Aside0.mk (below_step HB3.out hb); clear hb))
  go_ret
  exact ⟨rfl, below_step HB1.out HB4.out⟩
 | false =>
 rw [hs3] at hedge
 simp only [Bool.not_false, Bool.true_and]
 go_enter Try.func10, Try.ntmps10
 go_wp2_with (first | (go_at_call 20; refine hwants.mono ?_; rintro e w1 ⟨rfl, hb⟩; have HB2 := Aside0.mk hb; clear hb) | (go_at_call 21; refine (HW.out _ HB2.out).mono ?_; rintro e w2 ⟨rfl, hb⟩; have HB3 := Aside0.mk (below_step HB2.out hb); clear hb) | (go_at_call 22; refine (hedge _).mono ?_; rintro e w3 ⟨rfl, hb⟩; have HB4 := Aside0.mk (below_step HB3.out hb); clear hb) | (go_at_call 23; refine (HP.out _ HB4.out).mono ?_; rintro e w4 ⟨rfl, hb⟩; have HB5 := Aside0.mk (below_step HB4.out hb); clear hb))
 go_ret
 exact ⟨rfl, below_step HB1.out HB5.out⟩
end

end Go.Proofs.Ytgghbmhmpkeccaa.PA
