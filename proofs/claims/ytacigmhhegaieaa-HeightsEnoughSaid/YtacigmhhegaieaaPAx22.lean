-- MADE by wip/tools/xprint.py of this repo: the kit's print.py, turned by this session, and texts by hand
import Derived.Test.YtacigmhhegaieaaPAx0
import Derived.Test.YtacigmhhegaieaaPAx11
import Derived.Test.YtacigmhhegaieaaPAx13
import Derived.Test.YtacigmhhegaieaaPAx21
namespace Go.Proofs.Ytacigmhhegaieaa.PA
open Go.RowKit Go.Proofs.YtacigmhhegaieaaW.PrintWords Go.Proofs.YtacigmhhegaieaaW.PrintLast Go.Proofs.YtacigmhhegaieaaW.PrintMore
attribute [local go_sem] max2_int min2_int max_two min_two max_three min_three max_four min_four   -- for this text's walks alone
set_option linter.unusedVariables false
set_option linter.unusedSimpArgs false

-- BY HAND: refright.tpl
-- MAKING purflingref13_Right
section
open Go.RowKit Go.Shelf Go.Proofs.YtacigmhhegaieaaW.PrintWords Go.Proofs.YtacigmhhegaieaaW.PrintLast Go.Proofs.YtacigmhhegaieaaW.PrintMore
theorem refSize_eq (a b : Int) : purflingref13_size.f a b = some (goodSize a b) := by
 unfold purflingref13_size.f goodSize outside
 by_cases h0 : a = 0
 ·rw [if_pos h0, if_pos h0]
  congr 1
  rw [Bool.eq_iff_iff]
  simp
  omega
 ·rw [if_neg h0, if_neg h0]
  by_cases h1 : a = 1
  ·rw [if_pos h1, if_pos h1]
   split
   ·congr 1
    rw [Bool.eq_iff_iff]
    simp
    omega
   ·congr 1
    symm
    simp
    omega
  ·rw [if_neg h1, if_neg h1]
   by_cases h2 : a = 2
   ·rw [if_pos h2, if_pos h2]
    split
    ·congr 1
     rw [Bool.eq_iff_iff]
     simp
     omega
    ·congr 1
     symm
     simp
     omega
   ·rw [if_neg h2, if_neg h2]
/-- When is a need not right? -/
def NeedBad (n p2 p4 f5 f6 kd n0 : Int) : Prop := goodSize kd n0 = false ∨ f5 < 0 ∨ f5 > f6 ∨ f6 > 1125899906842623 ∨ p2 < 0 ∨ p2 > n ∨ p4 < 1 ∨ p4 > n - p2
theorem badNeed_iff (n : Int) (x : S37) : badNeed n x = true ↔ NeedBad n x.f0.f2 x.f0.f4 x.f1 x.f2 x.f3.f0 x.f3.f1 := by
 unfold badNeed badNeed9 needAt outside NeedBad
 cases goodSize x.f3.f0 x.f3.f1
 ·simp
 ·simp
  omega
theorem badNeed_no (n : Int) (x : S37) : badNeed n x = false ↔ ¬ NeedBad n x.f0.f2 x.f0.f4 x.f1 x.f2 x.f3.f0 x.f3.f1 := by
 rw [← badNeed_iff, Bool.not_eq_true]
theorem two_blocks {wr w' : World} {x8 x9 : Array Value} {t8 t9 : TypeId} (hb : Below ((wr.alloc (.cells x8 t8)).alloc (.cells x9 t9)).heap.size ((wr.alloc (.cells x8 t8)).alloc (.cells x9 t9)) w') :
  w'.heap[wr.heap.size]? = some (.cells x8 t8 (0, 0)) ∧ w'.heap[wr.heap.size + 1]? = some (.cells x9 t9 (0, 0)) := by
 have h8 := blk_alloc (heap_alloc_new wr (.cells x8 t8)) (.cells x9 t9)
 have h9 := heap_alloc_new (wr.alloc (.cells x8 t8)) (.cells x9 t9)
 rw [show (wr.alloc (.cells x8 t8)).heap.size = wr.heap.size + 1 from by simp] at h9
 exact ⟨(hb.block _ (blk_lt h8)).trans h8, (hb.block _ (blk_lt h9)).trans h9⟩
theorem any_none {α : Type} {p : α → Bool} {l : List α} (h : ∀ j (hj : j < l.length), p l[j] = false) : l.any p = false := by
 rw [List.any_eq_false]
 intro x hx
 obtain ⟨j, hj, e⟩ := List.mem_iff_getElem.1 hx
 rw [← e, h j hj]
 simp
set_option maxRecDepth 1000000 in
set_option maxHeartbeats 8000000 in
theorem refRight_main (A0 : Option Addr) (c0 : Nat) (l0 : List S35) (A1 : Option Addr) (c1 : Nat) (l1 : List S37) (w : World) (hr0 : Kd.C k35 w A0 l0.length l0) (hc0 : l0.length ≤ c0) (hr1 : Kd.C k37 w A1 l1.length l1) (hc1 : l1.length ≤ c1) (r : Bool)
  (hr : r = (decide (l0.length ≤ 10000) && !(l0.any badSize) && !(l1.any (badNeed l0.length)))) :
  Calls Try.prog 82 #[.slice A0 l0.length c0, .slice A1 l1.length c1] w fun e w' => e = .returned (.bool r) ∧ Below w.heap.size w w' := by
 have hmax0 : l0.length ≤ 9223372036854775807 := Kd.C_max hr0
 have hmax : l1.length ≤ 9223372036854775807 := Kd.C_max hr1
 have Hr0 := Lib.hid hr0
 have Hr1 := Lib.hid hr1
 have Hr := Lib.hid hr
 clear hr0 hr1 hr
 by_cases hle : l0.length ≤ 10000
 case neg =>
  have hlz : decide ((l0.length : Int) > 10000) = true := decide_eq_true (by omega)
  obtain rfl : r = false := by rw [Hr.out, decide_eq_false hle]; rfl
  clear hle
  go_enter Try.func82, Try.ntmps82
  go_wp2
  go_ret
  exact ⟨rfl, Below.refl _ _⟩
 have hlz : decide ((l0.length : Int) > 10000) = false := decide_eq_false (by omega)
 rw [decide_eq_true hle, Bool.true_and] at Hr
 clear hle
 go_enter Try.func82, Try.ntmps82
 go_wp2
 go_loopw [5] (fun i wr => ∃ k : Nat, k ≤ l0.length ∧ i = .int .i64 k ∧ Hid (Below w.heap.size w wr) ∧ Hid (∀ j (hj : j < l0.length), j < k → badSize l0[j] = false)) (fun i _ => l0.length - (intOf i).toNat)
 case atStart => exact ⟨0, Nat.zero_le _, rfl, Lib.hid (Below.refl _ _), Lib.hid (fun j _ hj => absurd hj (Nat.not_lt_zero _))⟩
 case round =>
  obtain ⟨k, hk, rfl, HB, HA⟩ := hrel
  by_cases hlt : k < l0.length
  ·have hltz : (k : Int) < (l0.length : Int) := by omega
   obtain ⟨ad, rfl, hx0, hx1⟩ := at_T35 Hr0.out (k : Int) (by omega) hltz
   rw [rd_size_nat l0 k hlt, Int.toNat_natCast] at hx0 hx1
   replace hx0 := (HB.out.cell (World.block_lt_of_cell? w _ hx0)).trans hx0
   replace hx1 := (HB.out.cell (World.block_lt_of_cell? w _ hx1)).trans hx1
   have hbs := Lib.hid (show badSize l0[k] = !goodSize l0[k].f0 l0[k].f1 from rfl)
   have hcall := fun W => purflingref13_size.calls l0[k].f0 l0[k].f1 (goodSize l0[k].f0 l0[k].f1) W (refSize_eq _ _)
   cases hq : goodSize l0[k].f0 l0[k].f1 with
   | false =>
    rw [hq] at hbs hcall
    have HC := Lib.hid hcall
    clear hcall hq
    go_wp2_with (go_at_call 115; refine (HC.out _).mono ?_; rintro e w' ⟨rfl, hb⟩; have HB2 := Lib.hid (below_step HB.out hb); clear hb)
    go_ret
    refine ⟨?_, HB2.out⟩
    rw [Hr.out, show l0.any badSize = true from List.any_eq_true.2 ⟨_, List.getElem_mem hlt, hbs.out⟩]
    rfl
   | true =>
    rw [hq] at hbs hcall
    have HC := Lib.hid hcall
    clear hcall hq
    go_wp2_with (go_at_call 115; refine (HC.out _).mono ?_; rintro e w' ⟨rfl, hb⟩; have HB2 := Lib.hid (below_step HB.out hb); clear hb)
    refine ⟨⟨k + 1, by omega, by go_num, HB2, Lib.hid (fun j hjl hj => ?_)⟩, ?_⟩
    ·by_cases e : j = k
     ·subst e
      exact hbs.out
     ·exact HA.out j hjl (by omega)
    ·simp [intOf]; omega
  ·obtain rfl : k = l0.length := by omega
   have hn0 : l0.any badSize = false := any_none (fun j hj => HA.out j hj hj)
   replace Hr := Lib.hid (Hr.out.trans (by rw [hn0]; rfl) : r = !(l1.any (badNeed l0.length)))
   clear hn0 HA
   go_wp2
   go_loopw [7] (fun i wr => ∃ k : Nat, k ≤ l1.length ∧ i = .int .i64 k ∧ Hid (Below w.heap.size w wr) ∧ Hid (∀ j (hj : j < l1.length), j < k → badNeed l0.length l1[j] = false)) (fun i _ => l1.length - (intOf i).toNat)
   case atStart => exact ⟨0, Nat.zero_le _, rfl, HB, Lib.hid (fun j _ hj => absurd hj (Nat.not_lt_zero _))⟩
   case round =>
    clear HB
    obtain ⟨k, hk, rfl, HB, HA⟩ := hrel
    by_cases hlt : k < l1.length
    ·have hltz : (k : Int) < (l1.length : Int) := by omega
     have hstep : ¬ NeedBad l0.length l1[k].f0.f2 l1[k].f0.f4 l1[k].f1 l1[k].f2 l1[k].f3.f0 l1[k].f3.f1 → ∀ j (hj : j < l1.length), j < k + 1 → badNeed l0.length l1[j] = false := by
      intro h j hj h1
      by_cases e : j = k
      ·subst e
       exact (badNeed_no _ _).2 h
      ·exact HA.out j hj (by omega)
     have hbad : NeedBad l0.length l1[k].f0.f2 l1[k].f0.f4 l1[k].f1 l1[k].f2 l1[k].f3.f0 l1[k].f3.f1 → r = false := by
      intro h
      rw [Hr.out, show l1.any (badNeed l0.length) = true from List.any_eq_true.2 ⟨_, List.getElem_mem hlt, (badNeed_iff _ _).2 h⟩]
      rfl
     obtain ⟨ad, rfl, hx0, hx1, hx2, hx3, hx4, hx5, hx6, hx7, hx8⟩ := at_T37 Hr1.out (k : Int) (by omega) hltz
     rw [rd_need_nat l1 k hlt, Int.toNat_natCast] at hx0 hx1 hx2 hx3 hx4 hx5 hx6 hx7 hx8
     have hB := HB.out
     replace hx0 := (hB.cell (World.block_lt_of_cell? w _ hx0)).trans hx0
     replace hx1 := (hB.cell (World.block_lt_of_cell? w _ hx1)).trans hx1
     replace hx2 := (hB.cell (World.block_lt_of_cell? w _ hx2)).trans hx2
     replace hx3 := (hB.cell (World.block_lt_of_cell? w _ hx3)).trans hx3
     replace hx4 := (hB.cell (World.block_lt_of_cell? w _ hx4)).trans hx4
     replace hx5 := (hB.cell (World.block_lt_of_cell? w _ hx5)).trans hx5
     replace hx6 := (hB.cell (World.block_lt_of_cell? w _ hx6)).trans hx6
     replace hx7 := (hB.cell (World.block_lt_of_cell? w _ hx7)).trans hx7
     replace hx8 := (hB.cell (World.block_lt_of_cell? w _ hx8)).trans hx8
     clear hB HA
     have Hstep := Lib.hid hstep
     have Hbad := Lib.hid hbad
     clear hstep hbad
     generalize l1[k] = x at hx0 hx1 hx2 hx3 hx4 hx5 hx6 hx7 hx8 Hstep Hbad
     obtain ⟨⟨p0, p1, p2, p3, p4⟩, f5, f6, ⟨kd, n0⟩⟩ := x
     simp only at hx0 hx1 hx2 hx3 hx4 hx5 hx6 hx7 hx8
     simp only at Hstep Hbad
     have hcall := fun W => purflingref13_size.calls kd n0 (goodSize kd n0) W (refSize_eq _ _)
     cases q0 : goodSize kd n0 with
     | false =>
      obtain rfl : r = false := Hbad.out (Or.inl (q0))
      rw [q0] at hcall
      have HC := Lib.hid hcall
      clear hcall q0
      go_wp2_with (go_at_call 115; refine (HC.out _).mono ?_; rintro e w' ⟨rfl, hb⟩; have HB2 := Lib.hid hb; obtain ⟨b8, b9⟩ := two_blocks hb; have m5 := (blk_cell b8 5).trans rfl; have m6 := (blk_cell b8 6).trans rfl; have m2 := (blk_cell b9 2).trans rfl; have m4 := (blk_cell b9 4).trans rfl; clear hb b8 b9)
      go_ret
      exact ⟨rfl, below_step ((HB.out.alloc HB.out.size _).alloc (Nat.le_trans HB.out.size (by simp)) _) HB2.out⟩
     | true =>
      rw [q0] at hcall
      have HC := Lib.hid hcall
      have Q0 := Lib.hid q0
      clear hcall q0
      cases q1 : decide (f5 < 0) with
      | true =>
       obtain rfl : r = false := Hbad.out (Or.inr (Or.inl (of_decide_eq_true q1)))
       go_wp2_with (go_at_call 115; refine (HC.out _).mono ?_; rintro e w' ⟨rfl, hb⟩; have HB2 := Lib.hid hb; obtain ⟨b8, b9⟩ := two_blocks hb; have m5 := (blk_cell b8 5).trans rfl; have m6 := (blk_cell b8 6).trans rfl; have m2 := (blk_cell b9 2).trans rfl; have m4 := (blk_cell b9 4).trans rfl; clear hb b8 b9)
       go_ret
       exact ⟨rfl, below_step ((HB.out.alloc HB.out.size _).alloc (Nat.le_trans HB.out.size (by simp)) _) HB2.out⟩
      | false =>
       cases q2 : decide (f5 > f6) with
       | true =>
        obtain rfl : r = false := Hbad.out (Or.inr (Or.inr (Or.inl (of_decide_eq_true q2))))
        go_wp2_with (go_at_call 115; refine (HC.out _).mono ?_; rintro e w' ⟨rfl, hb⟩; have HB2 := Lib.hid hb; obtain ⟨b8, b9⟩ := two_blocks hb; have m5 := (blk_cell b8 5).trans rfl; have m6 := (blk_cell b8 6).trans rfl; have m2 := (blk_cell b9 2).trans rfl; have m4 := (blk_cell b9 4).trans rfl; clear hb b8 b9)
        go_ret
        exact ⟨rfl, below_step ((HB.out.alloc HB.out.size _).alloc (Nat.le_trans HB.out.size (by simp)) _) HB2.out⟩
       | false =>
        cases q3 : decide (f6 > 1125899906842623) with
        | true =>
         obtain rfl : r = false := Hbad.out (Or.inr (Or.inr (Or.inr (Or.inl (of_decide_eq_true q3)))))
         go_wp2_with (go_at_call 115; refine (HC.out _).mono ?_; rintro e w' ⟨rfl, hb⟩; have HB2 := Lib.hid hb; obtain ⟨b8, b9⟩ := two_blocks hb; have m5 := (blk_cell b8 5).trans rfl; have m6 := (blk_cell b8 6).trans rfl; have m2 := (blk_cell b9 2).trans rfl; have m4 := (blk_cell b9 4).trans rfl; clear hb b8 b9)
         go_ret
         exact ⟨rfl, below_step ((HB.out.alloc HB.out.size _).alloc (Nat.le_trans HB.out.size (by simp)) _) HB2.out⟩
        | false =>
         cases q4 : decide (p2 < 0) with
         | true =>
          obtain rfl : r = false := Hbad.out (Or.inr (Or.inr (Or.inr (Or.inr (Or.inl (of_decide_eq_true q4))))))
          go_wp2_with (go_at_call 115; refine (HC.out _).mono ?_; rintro e w' ⟨rfl, hb⟩; have HB2 := Lib.hid hb; obtain ⟨b8, b9⟩ := two_blocks hb; have m5 := (blk_cell b8 5).trans rfl; have m6 := (blk_cell b8 6).trans rfl; have m2 := (blk_cell b9 2).trans rfl; have m4 := (blk_cell b9 4).trans rfl; clear hb b8 b9)
          go_ret
          exact ⟨rfl, below_step ((HB.out.alloc HB.out.size _).alloc (Nat.le_trans HB.out.size (by simp)) _) HB2.out⟩
         | false =>
          cases q5 : decide (p2 > (l0.length : Int)) with
          | true =>
           obtain rfl : r = false := Hbad.out (Or.inr (Or.inr (Or.inr (Or.inr (Or.inr (Or.inl (of_decide_eq_true q5)))))))
           go_wp2_with (go_at_call 115; refine (HC.out _).mono ?_; rintro e w' ⟨rfl, hb⟩; have HB2 := Lib.hid hb; obtain ⟨b8, b9⟩ := two_blocks hb; have m5 := (blk_cell b8 5).trans rfl; have m6 := (blk_cell b8 6).trans rfl; have m2 := (blk_cell b9 2).trans rfl; have m4 := (blk_cell b9 4).trans rfl; clear hb b8 b9)
           go_ret
           exact ⟨rfl, below_step ((HB.out.alloc HB.out.size _).alloc (Nat.le_trans HB.out.size (by simp)) _) HB2.out⟩
          | false =>
           cases q6 : decide (p4 < 1) with
           | true =>
            obtain rfl : r = false := Hbad.out (Or.inr (Or.inr (Or.inr (Or.inr (Or.inr (Or.inr (Or.inl (of_decide_eq_true q6))))))))
            go_wp2_with (go_at_call 115; refine (HC.out _).mono ?_; rintro e w' ⟨rfl, hb⟩; have HB2 := Lib.hid hb; obtain ⟨b8, b9⟩ := two_blocks hb; have m5 := (blk_cell b8 5).trans rfl; have m6 := (blk_cell b8 6).trans rfl; have m2 := (blk_cell b9 2).trans rfl; have m4 := (blk_cell b9 4).trans rfl; clear hb b8 b9)
            go_ret
            exact ⟨rfl, below_step ((HB.out.alloc HB.out.size _).alloc (Nat.le_trans HB.out.size (by simp)) _) HB2.out⟩
           | false =>
            have hw : wrap64 ((l0.length : Int) - p2) = (l0.length : Int) - p2 := by have h1 := of_decide_eq_false q4; have h2 := of_decide_eq_false q5; have h3 := of_decide_eq_false hlz; unfold wrap64; omega
            cases q7 : decide (p4 > (l0.length : Int) - p2) with
            | true =>
             obtain rfl : r = false := Hbad.out (Or.inr (Or.inr (Or.inr (Or.inr (Or.inr (Or.inr (Or.inr (of_decide_eq_true q7))))))))
             go_wp2_with (go_at_call 115; refine (HC.out _).mono ?_; rintro e w' ⟨rfl, hb⟩; have HB2 := Lib.hid hb; obtain ⟨b8, b9⟩ := two_blocks hb; have m5 := (blk_cell b8 5).trans rfl; have m6 := (blk_cell b8 6).trans rfl; have m2 := (blk_cell b9 2).trans rfl; have m4 := (blk_cell b9 4).trans rfl; clear hb b8 b9)
             go_ret
             exact ⟨rfl, below_step ((HB.out.alloc HB.out.size _).alloc (Nat.le_trans HB.out.size (by simp)) _) HB2.out⟩
            | false =>
             have Hnext := Lib.hid (Hstep.out (by have h1 := of_decide_eq_false q1; have h2 := of_decide_eq_false q2; have h3 := of_decide_eq_false q3; have h4 := of_decide_eq_false q4; have h5 := of_decide_eq_false q5; have h6 := of_decide_eq_false q6; have h7 := of_decide_eq_false q7; unfold NeedBad; rw [Q0.out]; simp only [Bool.true_eq_false, false_or]; omega))
             clear Hstep Hbad
             go_wp2_with (go_at_call 115; refine (HC.out _).mono ?_; rintro e w' ⟨rfl, hb⟩; have HB2 := Lib.hid hb; obtain ⟨b8, b9⟩ := two_blocks hb; have m5 := (blk_cell b8 5).trans rfl; have m6 := (blk_cell b8 6).trans rfl; have m2 := (blk_cell b9 2).trans rfl; have m4 := (blk_cell b9 4).trans rfl; clear hb b8 b9)
             refine ⟨⟨k + 1, by omega, by go_num, Lib.hid (below_step ((HB.out.alloc HB.out.size _).alloc (Nat.le_trans HB.out.size (by simp)) _) HB2.out), Hnext⟩, ?_⟩
             simp [intOf]; omega
    ·obtain rfl : k = l1.length := by omega
     have hn1 : l1.any (badNeed l0.length) = false := any_none (fun j hj => HA.out j hj hj)
     obtain rfl : r = true := by rw [Hr.out, hn1]; rfl
     clear hn1 HA
     go_wp2
     go_ret
     exact ⟨rfl, HB.out⟩
def purflingref13_Right.f (l0 : List S35) (l1 : List S37) : Option Bool := some (decide (l0.length ≤ 10000) && !(l0.any badSize) && !(l1.any (badNeed l0.length)))
theorem purflingref13_Right.calls (A0 : Option Addr) (c0 : Nat) (l0 : List S35) (A1 : Option Addr) (c1 : Nat) (l1 : List S37) (r : Bool) (w : World) (hr0 : Kd.C k35 w A0 l0.length l0) (hc0 : l0.length ≤ c0) (hr1 : Kd.C k37 w A1 l1.length l1) (hc1 : l1.length ≤ c1) (h : purflingref13_Right.f l0 l1 = some r) :
  Calls Try.prog 82 #[.slice A0 l0.length c0, .slice A1 l1.length c1] w fun e w' => e = .returned (.bool r) ∧ Below w.heap.size w w' :=
 refRight_main A0 c0 l0 A1 c1 l1 w hr0 hc0 hr1 hc1 r (Option.some.inj h).symm
end

end Go.Proofs.Ytacigmhhegaieaa.PA
