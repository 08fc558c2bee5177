-- MADE by wip/tools/xprint.py of this repo: the kit's print.py, turned by this session, and texts by hand
import Derived.Test.YtacigmhhegaieaaPAx0
import Derived.Test.YtacigmhhegaieaaPAx36
import Derived.Test.YtacigmhhegaieaaPAx43
import Derived.Test.YtacigmhhegaieaaPAx44
namespace Go.Proofs.Ytacigmhhegaieaa.PA
open Go.RowKit Go.Proofs.YtacigmhhegaieaaW.PrintWords Go.Proofs.YtacigmhhegaieaaW.PrintLast Go.Proofs.YtacigmhhegaieaaW.PrintMore
attribute [local go_sem] max2_int min2_int max_two min_two max_three min_three max_four min_four   -- for this text's walks alone
set_option linter.unusedVariables false
set_option linter.unusedSimpArgs false

/-! ### purflinglaw16_HeightsAdd: function 11 -/
mutual
def purflinglaw16_HeightsAdd.l0 : Nat → List Int → List Int → Int → Bool → List Int → Bool → Int → Int → Int → Option (Bool)
 | 0, _, _, _, _, _, _, _, _, _ => none
 | k + 1, x0, x1, x2, x7, x8, x10, x11, x12, x13 => if x13 < (x0.length : Int) then (if x10 = true then (if 0 ≤ x13 then (if x13 < (x8.length : Int) then (if (rd x8 x13) < (rd x0 x13) then (some false) else (purflinglaw16_HeightsAdd.l0 k x0 x1 x2 x7 x8 true (wrap64 (x11 + (rd x0 x13))) (wrap64 (x12 + (rd x8 x13))) (wrap64 (x13 + 1)))) else (none)) else (none)) else (if 0 ≤ x13 then (if x13 < (x1.length : Int) then (if x13 < (x8.length : Int) then (if (rd x8 x13) < (rd x0 x13) then (some false) else (purflinglaw16_HeightsAdd.l0 k x0 x1 x2 x7 x8 ((rd x1 x13) == (-1)) (wrap64 (x11 + (rd x0 x13))) (wrap64 (x12 + (rd x8 x13))) (wrap64 (x13 + 1)))) else (none)) else (none)) else (none))) else (purflinglaw16_HeightsAdd.l1 k x0 x1 x2 x7 x8 x10 x11 x12 0)
def purflinglaw16_HeightsAdd.l1 : Nat → List Int → List Int → Int → Bool → List Int → Bool → Int → Int → Int → Option (Bool)
 | 0, _, _, _, _, _, _, _, _, _ => none
 | k + 1, x0, x1, x2, x7, x8, x10, x11, x12, x14 => if x14 < (x0.length : Int) then (purflinglaw16_HeightsAdd.j2 k x0 x1 x2 x7 x8 x10 x11 x12 x14 x10) else (purflinglaw16_HeightsAdd.j2 k x0 x1 x2 x7 x8 x10 x11 x12 x14 false)
def purflinglaw16_HeightsAdd.j2 : Nat → List Int → List Int → Int → Bool → List Int → Bool → Int → Int → Int → Bool → Option (Bool)
 | 0, _, _, _, _, _, _, _, _, _, _ => none
 | k + 1, x0, x1, x2, x7, x8, x10, x11, x12, x14, x87 => if x87 = true then (if 0 ≤ x14 then (if x14 < (x1.length : Int) then (if (rd x1 x14) ≥ 0 then (if x14 < (x8.length : Int) then (if x14 < (x0.length : Int) then (if (rd x8 x14) = (rd x0 x14) then (purflinglaw16_HeightsAdd.l1 k x0 x1 x2 x7 x8 x10 x11 x12 (wrap64 (x14 + 1))) else (some false)) else (none)) else (none)) else (purflinglaw16_HeightsAdd.l1 k x0 x1 x2 x7 x8 x10 x11 x12 (wrap64 (x14 + 1)))) else (none)) else (none)) else (if x7 = true then (some (x12 == (mx x11 x2))) else (some false))
end
def purflinglaw16_HeightsAdd.f (k : Nat) (l0 : List Int) (l1 : List Int) (a2 : Int) : Option (Bool) := (purflinglaw16_shown.f k).bind fun t563 => (if 0 ≤ (mn (l0.length : Int) 100) then (if (mn (l0.length : Int) 100) ≤ (l0.length : Int) then (if 0 ≤ (mn (l1.length : Int) 100) then (if (mn (l1.length : Int) 100) ≤ (l1.length : Int) then ((heights_Stretch.f (l0.take ((mn (l0.length : Int) 100) : Int).toNat) (l1.take ((mn (l1.length : Int) 100) : Int).toNat) a2).bind fun bt566 => (if bt566.2 = 0 then (if (bt566.1.length : Int) = ((l0.take ((mn (l0.length : Int) 100) : Int).toNat).length : Int) then (purflinglaw16_HeightsAdd.l0 k (l0.take ((mn (l0.length : Int) 100) : Int).toNat) (l1.take ((mn (l1.length : Int) 100) : Int).toNat) a2 t563 bt566.1 false 0 0 0) else (some false)) else (if t563 = true then (some ((bt566.1.length : Int) == 0)) else (some false)))) else (none)) else (none)) else (none)) else (none))
theorem purflinglaw16_HeightsAdd.mono_l : ∀ k, (∀ y0 y1 y2 y3 y4 y5 y6 y7 y8, LeO (purflinglaw16_HeightsAdd.l0 k y0 y1 y2 y3 y4 y5 y6 y7 y8) (purflinglaw16_HeightsAdd.l0 (k + 1) y0 y1 y2 y3 y4 y5 y6 y7 y8)) ∧ (∀ y0 y1 y2 y3 y4 y5 y6 y7 y8, LeO (purflinglaw16_HeightsAdd.l1 k y0 y1 y2 y3 y4 y5 y6 y7 y8) (purflinglaw16_HeightsAdd.l1 (k + 1) y0 y1 y2 y3 y4 y5 y6 y7 y8)) ∧ (∀ y0 y1 y2 y3 y4 y5 y6 y7 y8 y9, LeO (purflinglaw16_HeightsAdd.j2 k y0 y1 y2 y3 y4 y5 y6 y7 y8 y9) (purflinglaw16_HeightsAdd.j2 (k + 1) y0 y1 y2 y3 y4 y5 y6 y7 y8 y9))
 | 0 => ⟨fun _ _ _ _ _ _ _ _ _ r h => by simp [purflinglaw16_HeightsAdd.l0] at h, fun _ _ _ _ _ _ _ _ _ r h => by simp [purflinglaw16_HeightsAdd.l1] at h, fun _ _ _ _ _ _ _ _ _ _ r h => by simp [purflinglaw16_HeightsAdd.j2] at h⟩
 | k + 1 => by
  obtain ⟨ih0, ih1, ih2⟩ := purflinglaw16_HeightsAdd.mono_l k
  refine ⟨?_, ?_, ?_⟩
  ·intro y0 y1 y2 y3 y4 y5 y6 y7 y8
   unfold purflinglaw16_HeightsAdd.l0
   repeat' first
   | (with_reducible exact ih0 _ _ _ _ _ _ _ _ _)
   | (with_reducible exact ih1 _ _ _ _ _ _ _ _ _)
   | (with_reducible exact ih2 _ _ _ _ _ _ _ _ _ _)
   | (with_reducible exact purflinglaw16_shown.mono _)
   | (with_reducible exact LeO.refl _)
   | (with_reducible exact LeO.none _)
   | (with_reducible refine LeO.ite ?_ ?_)
   | (with_reducible refine LeO.bind ?_ (fun _ => ?_))
   | exact ih0 _ _ _ _ _ _ _ _ _
   | exact ih1 _ _ _ _ _ _ _ _ _
   | exact ih2 _ _ _ _ _ _ _ _ _ _
   | exact purflinglaw16_shown.mono _
   | exact LeO.none _
   | refine LeO.ite ?_ ?_
   | refine LeO.bind ?_ (fun _ => ?_)
  ·intro y0 y1 y2 y3 y4 y5 y6 y7 y8
   unfold purflinglaw16_HeightsAdd.l1
   repeat' first
   | (with_reducible exact ih0 _ _ _ _ _ _ _ _ _)
   | (with_reducible exact ih1 _ _ _ _ _ _ _ _ _)
   | (with_reducible exact ih2 _ _ _ _ _ _ _ _ _ _)
   | (with_reducible exact purflinglaw16_shown.mono _)
   | (with_reducible exact LeO.refl _)
   | (with_reducible exact LeO.none _)
   | (with_reducible refine LeO.ite ?_ ?_)
   | (with_reducible refine LeO.bind ?_ (fun _ => ?_))
   | exact ih0 _ _ _ _ _ _ _ _ _
   | exact ih1 _ _ _ _ _ _ _ _ _
   | exact ih2 _ _ _ _ _ _ _ _ _ _
   | exact purflinglaw16_shown.mono _
   | exact LeO.none _
   | refine LeO.ite ?_ ?_
   | refine LeO.bind ?_ (fun _ => ?_)
  ·intro y0 y1 y2 y3 y4 y5 y6 y7 y8 y9
   unfold purflinglaw16_HeightsAdd.j2
   repeat' first
   | (with_reducible exact ih0 _ _ _ _ _ _ _ _ _)
   | (with_reducible exact ih1 _ _ _ _ _ _ _ _ _)
   | (with_reducible exact ih2 _ _ _ _ _ _ _ _ _ _)
   | (with_reducible exact purflinglaw16_shown.mono _)
   | (with_reducible exact LeO.refl _)
   | (with_reducible exact LeO.none _)
   | (with_reducible refine LeO.ite ?_ ?_)
   | (with_reducible refine LeO.bind ?_ (fun _ => ?_))
   | exact ih0 _ _ _ _ _ _ _ _ _
   | exact ih1 _ _ _ _ _ _ _ _ _
   | exact ih2 _ _ _ _ _ _ _ _ _ _
   | exact purflinglaw16_shown.mono _
   | exact LeO.none _
   | refine LeO.ite ?_ ?_
   | refine LeO.bind ?_ (fun _ => ?_)
theorem purflinglaw16_HeightsAdd.mono : ∀ a0 a1 a2 k, LeO (purflinglaw16_HeightsAdd.f k a0 a1 a2) (purflinglaw16_HeightsAdd.f (k + 1) a0 a1 a2) := by
 intro a0 a1 a2 k
 obtain ⟨ih0, ih1, ih2⟩ := purflinglaw16_HeightsAdd.mono_l k
 unfold purflinglaw16_HeightsAdd.f
 repeat' first
   | (with_reducible exact ih0 _ _ _ _ _ _ _ _ _)
   | (with_reducible exact ih1 _ _ _ _ _ _ _ _ _)
   | (with_reducible exact ih2 _ _ _ _ _ _ _ _ _ _)
   | (with_reducible exact purflinglaw16_shown.mono _)
   | (with_reducible exact LeO.refl _)
   | (with_reducible exact LeO.none _)
   | (with_reducible refine LeO.ite ?_ ?_)
   | (with_reducible refine LeO.bind ?_ (fun _ => ?_))
   | exact ih0 _ _ _ _ _ _ _ _ _
   | exact ih1 _ _ _ _ _ _ _ _ _
   | exact ih2 _ _ _ _ _ _ _ _ _ _
   | exact purflinglaw16_shown.mono _
   | exact LeO.none _
   | refine LeO.ite ?_ ?_
   | refine LeO.bind ?_ (fun _ => ?_)
set_option maxHeartbeats 8000000 in
set_option maxRecDepth 100000 in
theorem purflinglaw16_HeightsAdd.calls (k : Nat) (A0 : Option Addr) (c0 : Nat) (l0 : List Int) (A1 : Option Addr) (c1 : Nat) (l1 : List Int) (a2 : Int) (r : Bool) (w : World) (hr0 : Kd.C (Kd.int .i64) w A0 l0.length l0) (hc0 : l0.length ≤ c0) (hr1 : Kd.C (Kd.int .i64) w A1 l1.length l1) (hc1 : l1.length ≤ c1) (h : purflinglaw16_HeightsAdd.f k l0 l1 a2 = some r) :
  Calls Try.prog 11 #[.slice A0 l0.length c0, .slice A1 l1.length c1, .int .i64 a2] w fun e w' => e = .returned (.bool r) ∧ Below w.heap.size w w' := by
 have HR0 := Aside0.mk hr0
 have HC0 := Aside0.mk hc0
 clear hr0 hc0
 have HR1 := Aside0.mk hr1
 have HC1 := Aside0.mk hc1
 clear hr1 hc1
 have HB := Aside0.mk (Below.refl w.heap.size w)
 have H : ((purflinglaw16_shown.f k).bind fun t563 => (if 0 ≤ (mn (l0.length : Int) 100) then (if (mn (l0.length : Int) 100) ≤ (l0.length : Int) then (if 0 ≤ (mn (l1.length : Int) 100) then (if (mn (l1.length : Int) 100) ≤ (l1.length : Int) then ((heights_Stretch.f (l0.take ((mn (l0.length : Int) 100) : Int).toNat) (l1.take ((mn (l1.length : Int) 100) : Int).toNat) a2).bind fun bt566 => (if bt566.2 = 0 then (if (bt566.1.length : Int) = ((l0.take ((mn (l0.length : Int) 100) : Int).toNat).length : Int) then (purflinglaw16_HeightsAdd.l0 k (l0.take ((mn (l0.length : Int) 100) : Int).toNat) (l1.take ((mn (l1.length : Int) 100) : Int).toNat) a2 t563 bt566.1 false 0 0 0) else (some false)) else (if t563 = true then (some ((bt566.1.length : Int) == 0)) else (some false)))) else (none)) else (none)) else (none)) else (none))) = some r := h
 clear h
 replace H := Option.bind_eq_some_iff.mp H
 obtain ⟨t563, A40, H⟩ := H
 replace H : (if 0 ≤ (mn (l0.length : Int) 100) then (if (mn (l0.length : Int) 100) ≤ (l0.length : Int) then (if 0 ≤ (mn (l1.length : Int) 100) then (if (mn (l1.length : Int) 100) ≤ (l1.length : Int) then ((heights_Stretch.f (l0.take ((mn (l0.length : Int) 100) : Int).toNat) (l1.take ((mn (l1.length : Int) 100) : Int).toNat) a2).bind fun bt566 => (if bt566.2 = 0 then (if (bt566.1.length : Int) = ((l0.take ((mn (l0.length : Int) 100) : Int).toNat).length : Int) then (purflinglaw16_HeightsAdd.l0 k (l0.take ((mn (l0.length : Int) 100) : Int).toNat) (l1.take ((mn (l1.length : Int) 100) : Int).toNat) a2 t563 bt566.1 false 0 0 0) else (some false)) else (if t563 = true then (some ((bt566.1.length : Int) == 0)) else (some false)))) else (none)) else (none)) else (none)) else (none)) = some r := H
 have A4 := Aside0.mk A40
 clear A40
 obtain ⟨ji5, hji5⟩ : ∃ j_ : Int, (mn (l0.length : Int) 100) = j_ := ⟨_, rfl⟩
 replace H : (if 0 ≤ (ji5) then (if (ji5) ≤ (l0.length : Int) then (if 0 ≤ (mn (l1.length : Int) 100) then (if (mn (l1.length : Int) 100) ≤ (l1.length : Int) then ((heights_Stretch.f (l0.take ((ji5) : Int).toNat) (l1.take ((mn (l1.length : Int) 100) : Int).toNat) a2).bind fun bt566 => (if bt566.2 = 0 then (if (bt566.1.length : Int) = ((l0.take ((ji5) : Int).toNat).length : Int) then (purflinglaw16_HeightsAdd.l0 k (l0.take ((ji5) : Int).toNat) (l1.take ((mn (l1.length : Int) 100) : Int).toNat) a2 t563 bt566.1 false 0 0 0) else (some false)) else (if t563 = true then (some ((bt566.1.length : Int) == 0)) else (some false)))) else (none)) else (none)) else (none)) else (none)) = some r := by first | (rw [hji5] at H; exact H) | (simp only [hji5] at H ⊢; exact H)
 (try rw [hji5] at A4)
 (try (have hji5h : ji5 ≤ 100 := by (rw [← hji5]; unfold mn; (repeat' split) <;> omega)))
 (try (have hji5g : ji5 ≤ 64 := by omega))
 (try (have hji5l : 0 ≤ ji5 := by (rw [← hji5]; unfold mn; (repeat' split) <;> omega)))
 (try (have hji5m : 0 ≤ ji5 := by omega))
 have hji5_ : (if 100 < (l0.length : Int) then 100 else (l0.length : Int)) = ji5 := hji5
 by_cases c6 : 0 ≤ (ji5)
 ·rw [if_pos c6] at H
  have c6b0 := eq_true c6
  have c6b1 : decide (0 ≤ (ji5)) = true := decide_eq_true c6
  clear c6
  by_cases c7 : (ji5) ≤ (l0.length : Int)
  ·rw [if_pos c7] at H
   have c7b0 := eq_true c7
   have c7b1 : decide ((ji5) ≤ (l0.length : Int)) = true := decide_eq_true c7
   clear c7
   obtain ⟨ji8, hji8⟩ : ∃ j_ : Int, (mn (l1.length : Int) 100) = j_ := ⟨_, rfl⟩
   replace H : (if 0 ≤ (ji8) then (if (ji8) ≤ (l1.length : Int) then ((heights_Stretch.f (l0.take ((ji5) : Int).toNat) (l1.take ((ji8) : Int).toNat) a2).bind fun bt566 => (if bt566.2 = 0 then (if (bt566.1.length : Int) = ((l0.take ((ji5) : Int).toNat).length : Int) then (purflinglaw16_HeightsAdd.l0 k (l0.take ((ji5) : Int).toNat) (l1.take ((ji8) : Int).toNat) a2 t563 bt566.1 false 0 0 0) else (some false)) else (if t563 = true then (some ((bt566.1.length : Int) == 0)) else (some false)))) else (none)) else (none)) = some r := by first | (rw [hji8] at H; exact H) | (simp only [hji8] at H ⊢; exact H)
   (try rw [hji8] at A4)
   (try (have hji8h : ji8 ≤ 100 := by (rw [← hji8]; unfold mn; (repeat' split) <;> omega)))
   (try (have hji8g : ji8 ≤ 64 := by omega))
   (try (have hji8l : 0 ≤ ji8 := by (rw [← hji8]; unfold mn; (repeat' split) <;> omega)))
   (try (have hji8m : 0 ≤ ji8 := by omega))
   have hji8_ : (if 100 < (l1.length : Int) then 100 else (l1.length : Int)) = ji8 := hji8
   by_cases c9 : 0 ≤ (ji8)
   ·rw [if_pos c9] at H
    have c9b0 := eq_true c9
    have c9b1 : decide (0 ≤ (ji8)) = true := decide_eq_true c9
    clear c9
    by_cases c10 : (ji8) ≤ (l1.length : Int)
    ·rw [if_pos c10] at H
     have c10b0 := eq_true c10
     have c10b1 : decide ((ji8) ≤ (l1.length : Int)) = true := decide_eq_true c10
     clear c10
     replace H := Option.bind_eq_some_iff.mp H
     obtain ⟨⟨t566, t567⟩, A110, H⟩ := H
     replace H : (if t567 = 0 then (if (t566.length : Int) = ((l0.take ((ji5) : Int).toNat).length : Int) then (purflinglaw16_HeightsAdd.l0 k (l0.take ((ji5) : Int).toNat) (l1.take ((ji8) : Int).toNat) a2 t563 t566 false 0 0 0) else (some false)) else (if t563 = true then (some ((t566.length : Int) == 0)) else (some false))) = some r := H
     have A11 := Aside0.mk A110
     clear A110
     by_cases c12 : t567 = 0
     ·rw [if_pos c12] at H
      have c12b0 : (t567 == 0) = true := beq_iff_eq.mpr c12
      have c12b1 : (t567 != 0) = false := bne_eq_false_iff_eq.mpr c12
      clear c12
      by_cases c13 : (t566.length : Int) = ((l0.take ((ji5) : Int).toNat).length : Int)
      ·rw [if_pos c13] at H
       have c13b0 : ((t566.length : Int) == ((l0.take ((ji5) : Int).toNat).length : Int)) = true := beq_iff_eq.mpr c13
       have c13b0x : ((t566.length : Int) == (max ji5 0)) = true := by rw [← (show ((l0.take ((ji5) : Int).toNat).length : Int) = max ji5 0 from by rw [List.length_take]; have h_ := hji5_; split at h_ <;> omega)]; exact c13b0
       have c13b1 : ((t566.length : Int) != ((l0.take ((ji5) : Int).toNat).length : Int)) = false := bne_eq_false_iff_eq.mpr c13
       have c13b1x : ((t566.length : Int) != (max ji5 0)) = false := by rw [← (show ((l0.take ((ji5) : Int).toNat).length : Int) = max ji5 0 from by rw [List.length_take]; have h_ := hji5_; split at h_ <;> omega)]; exact c13b1
       have c13b2 : (t566.length == (l0.take ((ji5) : Int).toNat).length) = true := by first | simpa using c13 | (simp at c13 ⊢; omega)
       clear c13
       have H' := Aside0.mk H
       clear H
       go_enter Try.func11, Try.ntmps11
       go_wp2_with (first | (go_at_call 23; (with_reducible refine (purflinglaw16_shown.calls k  t563 _ A4.out).mono ?_); rintro e w14 ⟨rfl, hb⟩; have n0_ := Aside0.mk (below_step (by repeat (first | (with_reducible first | exact HB.out | apply below_alloc | apply pw_below_drewN | apply below_drew1) | exact HB.out)) hb); clear HB; have HB := n0_; clear n0_; (try clear hb); (try clear hb2); (try clear hk); (try clear hi); obtain ⟨i015, hi015, _, hsz15, _⟩ := info_parts info2; obtain ⟨hcut15, hA15, hC15⟩ := print_take_of (P := Try.prog) (Value.int .i64) 0 46 2 .i64 Try.underlying46 hi015 hsz15 A0 c0 l0 (ji5) (of_decide_eq_true (by first | (with_reducible assumption) | assumption)) (of_decide_eq_true (by first | (with_reducible assumption) | assumption)) HC0.out; have HR564 := Aside0.mk (Kd.C_of_reads (h1 := fun _ => rfl) (hA15 _ (Kd.reads_of_C HR0.out))); have HC564 := Aside0.mk hC15; clear hA15 hC15 hi015 hsz15; obtain ⟨i016, hi016, _, hsz16, _⟩ := info_parts info2; obtain ⟨hcut16, hA16, hC16⟩ := print_take_of (P := Try.prog) (Value.int .i64) 0 46 2 .i64 Try.underlying46 hi016 hsz16 A1 c1 l1 (ji8) (of_decide_eq_true (by first | (with_reducible assumption) | assumption)) (of_decide_eq_true (by first | (with_reducible assumption) | assumption)) HC1.out; have HR565 := Aside0.mk (Kd.C_of_reads (h1 := fun _ => rfl) (hA16 _ (Kd.reads_of_C HR1.out))); have HC565 := Aside0.mk hC16; clear hA16 hC16 hi016 hsz16) | (go_at_call 30; (try rw [show (ji5 : Int).toNat = (l0.take ((ji5) : Int).toNat).length from by rw [List.length_take]; have h_ := hji5_; split at h_ <;> omega]); (try rw [show (ji8 : Int).toNat = (l1.take ((ji8) : Int).toNat).length from by rw [List.length_take]; have h_ := hji8_; split at h_ <;> omega]); (with_reducible refine (heights_Stretch.calls _ _ (l0.take ((ji5) : Int).toNat) _ _ (l1.take ((ji8) : Int).toNat) a2 t566 t567 _ ?side1 ?side2 ?side3 ?side4 A11.out).mono ?_); (case side1 => repeat (first | exact (Kd.C_below HR564.out HB.out) | (with_reducible refine Kd.C_alloc ?_ _) | (with_reducible refine Kd.C_drewN ?_ _) | (with_reducible refine Kd.C_drew ?_))); (case side2 => exact HC564.out); (case side3 => repeat (first | exact (Kd.C_below HR565.out HB.out) | (with_reducible refine Kd.C_alloc ?_ _) | (with_reducible refine Kd.C_drewN ?_ _) | (with_reducible refine Kd.C_drew ?_))); (case side4 => exact HC565.out); rintro e w17 ⟨v568, rfl, ho0, hb⟩; have n0_ := Aside0.mk (Kd.R_lower ho0 (below_size (by repeat (first | (with_reducible first | exact HB.out | apply below_alloc | apply pw_below_drewN | apply below_drew1) | exact HB.out)))); have n1_ := Aside0.mk (below_step (by repeat (first | (with_reducible first | exact HB.out | apply below_alloc | apply pw_below_drewN | apply below_drew1) | exact HB.out)) hb); clear HB; have HO569 := n0_; have HB := n1_; clear n0_ n1_; (try clear hb); (try clear hb2); (try clear hk); (try clear hi); (try clear ho0); obtain ⟨Ao18, co18, eo18⟩ := Kd.R_slice HO569.out; subst eo18))
       repeat (go_quiet (first | (go_at_call 23; (with_reducible refine (purflinglaw16_shown.calls k  t563 _ A4.out).mono ?_); rintro e w14 ⟨rfl, hb⟩; have n0_ := Aside0.mk (below_step (by repeat (first | (with_reducible first | exact HB.out | apply below_alloc | apply pw_below_drewN | apply below_drew1) | exact HB.out)) hb); clear HB; have HB := n0_; clear n0_; (try clear hb); (try clear hb2); (try clear hk); (try clear hi); obtain ⟨i015, hi015, _, hsz15, _⟩ := info_parts info2; obtain ⟨hcut15, hA15, hC15⟩ := print_take_of (P := Try.prog) (Value.int .i64) 0 46 2 .i64 Try.underlying46 hi015 hsz15 A0 c0 l0 (ji5) (of_decide_eq_true (by first | (with_reducible assumption) | assumption)) (of_decide_eq_true (by first | (with_reducible assumption) | assumption)) HC0.out; have HR564 := Aside0.mk (Kd.C_of_reads (h1 := fun _ => rfl) (hA15 _ (Kd.reads_of_C HR0.out))); have HC564 := Aside0.mk hC15; clear hA15 hC15 hi015 hsz15; obtain ⟨i016, hi016, _, hsz16, _⟩ := info_parts info2; obtain ⟨hcut16, hA16, hC16⟩ := print_take_of (P := Try.prog) (Value.int .i64) 0 46 2 .i64 Try.underlying46 hi016 hsz16 A1 c1 l1 (ji8) (of_decide_eq_true (by first | (with_reducible assumption) | assumption)) (of_decide_eq_true (by first | (with_reducible assumption) | assumption)) HC1.out; have HR565 := Aside0.mk (Kd.C_of_reads (h1 := fun _ => rfl) (hA16 _ (Kd.reads_of_C HR1.out))); have HC565 := Aside0.mk hC16; clear hA16 hC16 hi016 hsz16) | (go_at_call 30; (try rw [show (ji5 : Int).toNat = (l0.take ((ji5) : Int).toNat).length from by rw [List.length_take]; have h_ := hji5_; split at h_ <;> omega]); (try rw [show (ji8 : Int).toNat = (l1.take ((ji8) : Int).toNat).length from by rw [List.length_take]; have h_ := hji8_; split at h_ <;> omega]); (with_reducible refine (heights_Stretch.calls _ _ (l0.take ((ji5) : Int).toNat) _ _ (l1.take ((ji8) : Int).toNat) a2 t566 t567 _ ?side1 ?side2 ?side3 ?side4 A11.out).mono ?_); (case side1 => repeat (first | exact (Kd.C_below HR564.out HB.out) | (with_reducible refine Kd.C_alloc ?_ _) | (with_reducible refine Kd.C_drewN ?_ _) | (with_reducible refine Kd.C_drew ?_))); (case side2 => exact HC564.out); (case side3 => repeat (first | exact (Kd.C_below HR565.out HB.out) | (with_reducible refine Kd.C_alloc ?_ _) | (with_reducible refine Kd.C_drewN ?_ _) | (with_reducible refine Kd.C_drew ?_))); (case side4 => exact HC565.out); rintro e w17 ⟨v568, rfl, ho0, hb⟩; have n0_ := Aside0.mk (Kd.R_lower ho0 (below_size (by repeat (first | (with_reducible first | exact HB.out | apply below_alloc | apply pw_below_drewN | apply below_drew1) | exact HB.out)))); have n1_ := Aside0.mk (below_step (by repeat (first | (with_reducible first | exact HB.out | apply below_alloc | apply pw_below_drewN | apply below_drew1) | exact HB.out)) hb); clear HB; have HO569 := n0_; have HB := n1_; clear n0_ n1_; (try clear hb); (try clear hb2); (try clear hk); (try clear hi); (try clear ho0); obtain ⟨Ao18, co18, eo18⟩ := Kd.R_slice HO569.out; subst eo18)); try go_wp2_with (first | (go_at_call 23; (with_reducible refine (purflinglaw16_shown.calls k  t563 _ A4.out).mono ?_); rintro e w14 ⟨rfl, hb⟩; have n0_ := Aside0.mk (below_step (by repeat (first | (with_reducible first | exact HB.out | apply below_alloc | apply pw_below_drewN | apply below_drew1) | exact HB.out)) hb); clear HB; have HB := n0_; clear n0_; (try clear hb); (try clear hb2); (try clear hk); (try clear hi); obtain ⟨i015, hi015, _, hsz15, _⟩ := info_parts info2; obtain ⟨hcut15, hA15, hC15⟩ := print_take_of (P := Try.prog) (Value.int .i64) 0 46 2 .i64 Try.underlying46 hi015 hsz15 A0 c0 l0 (ji5) (of_decide_eq_true (by first | (with_reducible assumption) | assumption)) (of_decide_eq_true (by first | (with_reducible assumption) | assumption)) HC0.out; have HR564 := Aside0.mk (Kd.C_of_reads (h1 := fun _ => rfl) (hA15 _ (Kd.reads_of_C HR0.out))); have HC564 := Aside0.mk hC15; clear hA15 hC15 hi015 hsz15; obtain ⟨i016, hi016, _, hsz16, _⟩ := info_parts info2; obtain ⟨hcut16, hA16, hC16⟩ := print_take_of (P := Try.prog) (Value.int .i64) 0 46 2 .i64 Try.underlying46 hi016 hsz16 A1 c1 l1 (ji8) (of_decide_eq_true (by first | (with_reducible assumption) | assumption)) (of_decide_eq_true (by first | (with_reducible assumption) | assumption)) HC1.out; have HR565 := Aside0.mk (Kd.C_of_reads (h1 := fun _ => rfl) (hA16 _ (Kd.reads_of_C HR1.out))); have HC565 := Aside0.mk hC16; clear hA16 hC16 hi016 hsz16) | (go_at_call 30; (try rw [show (ji5 : Int).toNat = (l0.take ((ji5) : Int).toNat).length from by rw [List.length_take]; have h_ := hji5_; split at h_ <;> omega]); (try rw [show (ji8 : Int).toNat = (l1.take ((ji8) : Int).toNat).length from by rw [List.length_take]; have h_ := hji8_; split at h_ <;> omega]); (with_reducible refine (heights_Stretch.calls _ _ (l0.take ((ji5) : Int).toNat) _ _ (l1.take ((ji8) : Int).toNat) a2 t566 t567 _ ?side1 ?side2 ?side3 ?side4 A11.out).mono ?_); (case side1 => repeat (first | exact (Kd.C_below HR564.out HB.out) | (with_reducible refine Kd.C_alloc ?_ _) | (with_reducible refine Kd.C_drewN ?_ _) | (with_reducible refine Kd.C_drew ?_))); (case side2 => exact HC564.out); (case side3 => repeat (first | exact (Kd.C_below HR565.out HB.out) | (with_reducible refine Kd.C_alloc ?_ _) | (with_reducible refine Kd.C_drewN ?_ _) | (with_reducible refine Kd.C_drew ?_))); (case side4 => exact HC565.out); rintro e w17 ⟨v568, rfl, ho0, hb⟩; have n0_ := Aside0.mk (Kd.R_lower ho0 (below_size (by repeat (first | (with_reducible first | exact HB.out | apply below_alloc | apply pw_below_drewN | apply below_drew1) | exact HB.out)))); have n1_ := Aside0.mk (below_step (by repeat (first | (with_reducible first | exact HB.out | apply below_alloc | apply pw_below_drewN | apply below_drew1) | exact HB.out)) hb); clear HB; have HO569 := n0_; have HB := n1_; clear n0_ n1_; (try clear hb); (try clear hb2); (try clear hk); (try clear hi); (try clear ho0); obtain ⟨Ao18, co18, eo18⟩ := Kd.R_slice HO569.out; subst eo18)))
       go_loopg [10, 11, 12, 13] k (fun kq v10 v11 v12 v13 w' => ∃ (x10_1 : Bool) (x11_1 : Int) (x12_1 : Int) (x13_1 : Int), v10 = .bool x10_1 ∧ v11 = .int .i64 x11_1 ∧ v12 = .int .i64 x12_1 ∧ v13 = .int .i64 x13_1 ∧ Aside0 (purflinglaw16_HeightsAdd.l0 kq (l0.take ((ji5) : Int).toNat) (l1.take ((ji8) : Int).toNat) a2 t563 t566 x10_1 x11_1 x12_1 x13_1 = some r) ∧ Aside0 (kq ≤ k) ∧ Aside0 (Kd.R (Kd.int .i64) 2 w' w.heap.size (fun _ => True) (.slice Ao18 t566.length co18) t566) ∧ Aside0 (Below w.heap.size w w'))
       case atStart => exact ⟨(false), (0), (0), (0), (by first | rfl | (simp; done) | (simp [*]; done)), (by first | rfl | (simp; done) | (simp [*]; done)), (by first | rfl | (simp; done) | (simp [*]; done)), (by first | rfl | (simp; done) | (simp [*]; done)), H', ⟨Nat.le_refl _⟩, ⟨by (with_reducible repeat (first | apply Kd.R_alloc | apply Kd.R_drewN | apply Kd.R_drew)); exact HO569.out⟩, ⟨by repeat (first | (with_reducible first | exact HB.out | apply below_alloc | apply pw_below_drewN | apply below_drew1) | exact HB.out)⟩⟩
       case round =>
        clear H'
        try clear c1
        try clear p2
        try clear c6
        try clear c6b0
        try clear c6b1
        try clear c7
        try clear c7b0
        try clear c7b1
        try clear c9
        try clear c9b0
        try clear c9b1
        try clear c10
        try clear c10b0
        try clear c10b1
        try clear c11
        try clear c12
        try clear c12b0
        try clear c12b1
        try clear c13
        try clear c13b0
        try clear c13b1
        try clear c13b2
        obtain ⟨x10_1, x11_1, x12_1, x13_1, rfl, rfl, rfl, rfl, HA, HK1, HO_8, HB⟩ := hrel
        cases gk with
        | zero => exact absurd HA.out (by simp [purflinglaw16_HeightsAdd.l0])
        | succ k1 =>
         have H := HA.out
         clear HA
         simp only [purflinglaw16_HeightsAdd.l0] at H
         by_cases c19 : x13_1 < ((l0.take ((ji5) : Int).toNat).length : Int)
         ·rw [if_pos c19] at H
          have c19b0 : decide (x13_1 < ((l0.take ((ji5) : Int).toNat).length : Int)) = true := decide_eq_true c19
          have c19b0x : decide (x13_1 < (max ji5 0)) = true := by rw [← (show ((l0.take ((ji5) : Int).toNat).length : Int) = max ji5 0 from by rw [List.length_take]; have h_ := hji5_; split at h_ <;> omega)]; exact c19b0
          clear c19
          by_cases c20 : x10_1 = true
          ·subst c20
           have H1 : (if 0 ≤ x13_1 then (if x13_1 < (t566.length : Int) then (if (rd t566 x13_1) < (rd (l0.take ((ji5) : Int).toNat) x13_1) then (some false) else (purflinglaw16_HeightsAdd.l0 k1 (l0.take ((ji5) : Int).toNat) (l1.take ((ji8) : Int).toNat) a2 t563 t566 true (wrap64 (x11_1 + (rd (l0.take ((ji5) : Int).toNat) x13_1))) (wrap64 (x12_1 + (rd t566 x13_1))) (wrap64 (x13_1 + 1)))) else (none)) else (none)) = some r := by rw [if_pos rfl] at H; exact H
           clear H
           have H := H1
           clear H1
           by_cases c21 : 0 ≤ x13_1
           ·rw [if_pos c21] at H
            have c21b0 : decide (0 ≤ x13_1) = true := decide_eq_true c21
            clear c21
            by_cases c22 : x13_1 < (t566.length : Int)
            ·rw [if_pos c22] at H
             have c22b0 : decide (x13_1 < (t566.length : Int)) = true := decide_eq_true c22
             clear c22
             by_cases c23 : (rd t566 x13_1) < (rd (l0.take ((ji5) : Int).toNat) x13_1)
             ·rw [if_pos c23] at H
              have c23b0 : decide ((rd t566 x13_1) < (rd (l0.take ((ji5) : Int).toNat) x13_1)) = true := decide_eq_true c23
              clear c23
              obtain rfl := Option.some.inj H
              have p570 : 0 ≤ (x13_1 : Int) := of_decide_eq_true (by first | (with_reducible assumption) | assumption)
              have q570 : x13_1 < ((l0.take ((ji5) : Int).toNat).length : Int) := of_decide_eq_true (by first | (with_reducible assumption) | assumption)
              obtain ⟨ad570, e570, hx570_0⟩ := Kd.at_int HR564.out x13_1 p570 q570
              cases e570
              replace hx570_0 := (HB.out.cell (World.block_lt_of_cell? w _ hx570_0)).trans hx570_0
              replace p570 := eq_true p570
              replace q570 := eq_true q570
              have q570x : (x13_1 < (max ji5 0)) = True := by rw [← (show ((l0.take ((ji5) : Int).toNat).length : Int) = max ji5 0 from by rw [List.length_take]; have h_ := hji5_; split at h_ <;> omega)]; exact q570
              have p571 : 0 ≤ (x13_1 : Int) := of_decide_eq_true (by first | (with_reducible assumption) | assumption)
              have q571 : x13_1 < (t566.length : Int) := of_decide_eq_true (by first | (with_reducible assumption) | assumption)
              obtain ⟨ad571, e571, hx571_0⟩ := Kd.at_int (Kd.R_reads' HO_8.out).2.2 x13_1 p571 q571
              cases e571
              replace p571 := eq_true p571
              replace q571 := eq_true q571
              have p572 : 0 ≤ (x13_1 : Int) := of_decide_eq_true (by first | (with_reducible assumption) | assumption)
              have q572 : x13_1 < (t566.length : Int) := of_decide_eq_true (by first | (with_reducible assumption) | assumption)
              obtain ⟨ad572, e572, hx572_0⟩ := Kd.at_int (Kd.R_reads' HO_8.out).2.2 x13_1 p572 q572
              obtain rfl : ad571 = ad572 := (by injection e572)
              replace p572 := eq_true p572
              replace q572 := eq_true q572
              have p573 : 0 ≤ (x13_1 : Int) := of_decide_eq_true (by first | (with_reducible assumption) | assumption)
              have q573 : x13_1 < ((l0.take ((ji5) : Int).toNat).length : Int) := of_decide_eq_true (by first | (with_reducible assumption) | assumption)
              obtain ⟨ad573, e573, hx573_0⟩ := Kd.at_int HR564.out x13_1 p573 q573
              obtain rfl : ad570 = ad573 := (by injection e573)
              replace hx573_0 := (HB.out.cell (World.block_lt_of_cell? w _ hx573_0)).trans hx573_0
              replace p573 := eq_true p573
              replace q573 := eq_true q573
              have q573x : (x13_1 < (max ji5 0)) = True := by rw [← (show ((l0.take ((ji5) : Int).toNat).length : Int) = max ji5 0 from by rw [List.length_take]; have h_ := hji5_; split at h_ <;> omega)]; exact q573
              go_wp2
              repeat (go_quiet (fail); try go_wp2)
              go_ret
              exact ⟨by first | rfl | (simp [errW_none, errW_some] <;> rfl) | (simp only [← hji5, ← hji8]; first | rfl | (simp [errW_none, errW_some] <;> rfl)) | (simp [*, errW_none, errW_some] <;> rfl), by repeat (first | (with_reducible first | exact HB.out | apply below_alloc | apply pw_below_drewN | apply below_drew1) | exact HB.out)⟩
             ·rw [if_neg c23] at H
              have c23b0 : decide ((rd t566 x13_1) < (rd (l0.take ((ji5) : Int).toNat) x13_1)) = false := decide_eq_false c23
              clear c23
              have H' := Aside0.mk H
              clear H
              have p570 : 0 ≤ (x13_1 : Int) := of_decide_eq_true (by first | (with_reducible assumption) | assumption)
              have q570 : x13_1 < ((l0.take ((ji5) : Int).toNat).length : Int) := of_decide_eq_true (by first | (with_reducible assumption) | assumption)
              obtain ⟨ad570, e570, hx570_0⟩ := Kd.at_int HR564.out x13_1 p570 q570
              cases e570
              replace hx570_0 := (HB.out.cell (World.block_lt_of_cell? w _ hx570_0)).trans hx570_0
              replace p570 := eq_true p570
              replace q570 := eq_true q570
              have q570x : (x13_1 < (max ji5 0)) = True := by rw [← (show ((l0.take ((ji5) : Int).toNat).length : Int) = max ji5 0 from by rw [List.length_take]; have h_ := hji5_; split at h_ <;> omega)]; exact q570
              have p571 : 0 ≤ (x13_1 : Int) := of_decide_eq_true (by first | (with_reducible assumption) | assumption)
              have q571 : x13_1 < (t566.length : Int) := of_decide_eq_true (by first | (with_reducible assumption) | assumption)
              obtain ⟨ad571, e571, hx571_0⟩ := Kd.at_int (Kd.R_reads' HO_8.out).2.2 x13_1 p571 q571
              cases e571
              replace p571 := eq_true p571
              replace q571 := eq_true q571
              have p572 : 0 ≤ (x13_1 : Int) := of_decide_eq_true (by first | (with_reducible assumption) | assumption)
              have q572 : x13_1 < (t566.length : Int) := of_decide_eq_true (by first | (with_reducible assumption) | assumption)
              obtain ⟨ad572, e572, hx572_0⟩ := Kd.at_int (Kd.R_reads' HO_8.out).2.2 x13_1 p572 q572
              obtain rfl : ad571 = ad572 := (by injection e572)
              replace p572 := eq_true p572
              replace q572 := eq_true q572
              have p573 : 0 ≤ (x13_1 : Int) := of_decide_eq_true (by first | (with_reducible assumption) | assumption)
              have q573 : x13_1 < ((l0.take ((ji5) : Int).toNat).length : Int) := of_decide_eq_true (by first | (with_reducible assumption) | assumption)
              obtain ⟨ad573, e573, hx573_0⟩ := Kd.at_int HR564.out x13_1 p573 q573
              obtain rfl : ad570 = ad573 := (by injection e573)
              replace hx573_0 := (HB.out.cell (World.block_lt_of_cell? w _ hx573_0)).trans hx573_0
              replace p573 := eq_true p573
              replace q573 := eq_true q573
              have q573x : (x13_1 < (max ji5 0)) = True := by rw [← (show ((l0.take ((ji5) : Int).toNat).length : Int) = max ji5 0 from by rw [List.length_take]; have h_ := hji5_; split at h_ <;> omega)]; exact q573
              go_wp2
              repeat (go_quiet (fail); try go_wp2)
              go_roundg k1
              case measure => have := HK1.out; omega
              case rel => exact ⟨(true), (wrap64 (x11_1 + (rd (l0.take ((ji5) : Int).toNat) x13_1))), (wrap64 (x12_1 + (rd t566 x13_1))), (wrap64 (x13_1 + 1)), (by first | rfl | (simp; done) | (simp [*]; done)), (by first | rfl | (simp; done) | (simp only [← hji5] <;> (first | rfl | simp)) | (simp [*]; done)), (by first | rfl | (simp; done) | (simp [*]; done)), (by first | rfl | (simp; done) | (simp [*]; done)), H', ⟨by have := HK1.out; omega⟩, ⟨by (with_reducible repeat (first | apply Kd.R_alloc | apply Kd.R_drewN | apply Kd.R_drew)); exact HO_8.out⟩, ⟨by repeat (first | (with_reducible first | exact HB.out | apply below_alloc | apply pw_below_drewN | apply below_drew1) | exact HB.out)⟩⟩
            ·rw [if_neg c22] at H
             exact absurd H (by simp)
           ·rw [if_neg c21] at H
            exact absurd H (by simp)
          ·replace c20 := Bool.eq_false_iff.mpr c20
           subst c20
           have H1 : (if 0 ≤ x13_1 then (if x13_1 < ((l1.take ((ji8) : Int).toNat).length : Int) then (if x13_1 < (t566.length : Int) then (if (rd t566 x13_1) < (rd (l0.take ((ji5) : Int).toNat) x13_1) then (some false) else (purflinglaw16_HeightsAdd.l0 k1 (l0.take ((ji5) : Int).toNat) (l1.take ((ji8) : Int).toNat) a2 t563 t566 ((rd (l1.take ((ji8) : Int).toNat) x13_1) == (-1)) (wrap64 (x11_1 + (rd (l0.take ((ji5) : Int).toNat) x13_1))) (wrap64 (x12_1 + (rd t566 x13_1))) (wrap64 (x13_1 + 1)))) else (none)) else (none)) else (none)) = some r := by rw [if_neg (show ¬ (false = true) by decide)] at H; exact H
           clear H
           have H := H1
           clear H1
           by_cases c24 : 0 ≤ x13_1
           ·rw [if_pos c24] at H
            have c24b0 : decide (0 ≤ x13_1) = true := decide_eq_true c24
            clear c24
            by_cases c25 : x13_1 < ((l1.take ((ji8) : Int).toNat).length : Int)
            ·rw [if_pos c25] at H
             have c25b0 : decide (x13_1 < ((l1.take ((ji8) : Int).toNat).length : Int)) = true := decide_eq_true c25
             have c25b0x : decide (x13_1 < (max ji8 0)) = true := by rw [← (show ((l1.take ((ji8) : Int).toNat).length : Int) = max ji8 0 from by rw [List.length_take]; have h_ := hji8_; split at h_ <;> omega)]; exact c25b0
             clear c25
             by_cases c26 : x13_1 < (t566.length : Int)
             ·rw [if_pos c26] at H
              have c26b0 : decide (x13_1 < (t566.length : Int)) = true := decide_eq_true c26
              clear c26
              by_cases c27 : (rd t566 x13_1) < (rd (l0.take ((ji5) : Int).toNat) x13_1)
              ·rw [if_pos c27] at H
               have c27b0 : decide ((rd t566 x13_1) < (rd (l0.take ((ji5) : Int).toNat) x13_1)) = true := decide_eq_true c27
               clear c27
               obtain rfl := Option.some.inj H
               have p574 : 0 ≤ (x13_1 : Int) := of_decide_eq_true (by first | (with_reducible assumption) | assumption)
               have q574 : x13_1 < ((l1.take ((ji8) : Int).toNat).length : Int) := of_decide_eq_true (by first | (with_reducible assumption) | assumption)
               obtain ⟨ad574, e574, hx574_0⟩ := Kd.at_int HR565.out x13_1 p574 q574
               cases e574
               replace hx574_0 := (HB.out.cell (World.block_lt_of_cell? w _ hx574_0)).trans hx574_0
               replace p574 := eq_true p574
               replace q574 := eq_true q574
               have q574x : (x13_1 < (max ji8 0)) = True := by rw [← (show ((l1.take ((ji8) : Int).toNat).length : Int) = max ji8 0 from by rw [List.length_take]; have h_ := hji8_; split at h_ <;> omega)]; exact q574
               have p575 : 0 ≤ (x13_1 : Int) := of_decide_eq_true (by first | (with_reducible assumption) | assumption)
               have q575 : x13_1 < ((l0.take ((ji5) : Int).toNat).length : Int) := of_decide_eq_true (by first | (with_reducible assumption) | assumption)
               obtain ⟨ad575, e575, hx575_0⟩ := Kd.at_int HR564.out x13_1 p575 q575
               cases e575
               replace hx575_0 := (HB.out.cell (World.block_lt_of_cell? w _ hx575_0)).trans hx575_0
               replace p575 := eq_true p575
               replace q575 := eq_true q575
               have q575x : (x13_1 < (max ji5 0)) = True := by rw [← (show ((l0.take ((ji5) : Int).toNat).length : Int) = max ji5 0 from by rw [List.length_take]; have h_ := hji5_; split at h_ <;> omega)]; exact q575
               have p576 : 0 ≤ (x13_1 : Int) := of_decide_eq_true (by first | (with_reducible assumption) | assumption)
               have q576 : x13_1 < (t566.length : Int) := of_decide_eq_true (by first | (with_reducible assumption) | assumption)
               obtain ⟨ad576, e576, hx576_0⟩ := Kd.at_int (Kd.R_reads' HO_8.out).2.2 x13_1 p576 q576
               cases e576
               replace p576 := eq_true p576
               replace q576 := eq_true q576
               have p577 : 0 ≤ (x13_1 : Int) := of_decide_eq_true (by first | (with_reducible assumption) | assumption)
               have q577 : x13_1 < (t566.length : Int) := of_decide_eq_true (by first | (with_reducible assumption) | assumption)
               obtain ⟨ad577, e577, hx577_0⟩ := Kd.at_int (Kd.R_reads' HO_8.out).2.2 x13_1 p577 q577
               obtain rfl : ad576 = ad577 := (by injection e577)
               replace p577 := eq_true p577
               replace q577 := eq_true q577
               have p578 : 0 ≤ (x13_1 : Int) := of_decide_eq_true (by first | (with_reducible assumption) | assumption)
               have q578 : x13_1 < ((l0.take ((ji5) : Int).toNat).length : Int) := of_decide_eq_true (by first | (with_reducible assumption) | assumption)
               obtain ⟨ad578, e578, hx578_0⟩ := Kd.at_int HR564.out x13_1 p578 q578
               obtain rfl : ad575 = ad578 := (by injection e578)
               replace hx578_0 := (HB.out.cell (World.block_lt_of_cell? w _ hx578_0)).trans hx578_0
               replace p578 := eq_true p578
               replace q578 := eq_true q578
               have q578x : (x13_1 < (max ji5 0)) = True := by rw [← (show ((l0.take ((ji5) : Int).toNat).length : Int) = max ji5 0 from by rw [List.length_take]; have h_ := hji5_; split at h_ <;> omega)]; exact q578
               go_wp2
               repeat (go_quiet (fail); try go_wp2)
               go_ret
               exact ⟨by first | rfl | (simp [errW_none, errW_some] <;> rfl) | (simp only [← hji5, ← hji8]; first | rfl | (simp [errW_none, errW_some] <;> rfl)) | (simp [*, errW_none, errW_some] <;> rfl), by repeat (first | (with_reducible first | exact HB.out | apply below_alloc | apply pw_below_drewN | apply below_drew1) | exact HB.out)⟩
              ·rw [if_neg c27] at H
               have c27b0 : decide ((rd t566 x13_1) < (rd (l0.take ((ji5) : Int).toNat) x13_1)) = false := decide_eq_false c27
               clear c27
               have H' := Aside0.mk H
               clear H
               have p574 : 0 ≤ (x13_1 : Int) := of_decide_eq_true (by first | (with_reducible assumption) | assumption)
               have q574 : x13_1 < ((l1.take ((ji8) : Int).toNat).length : Int) := of_decide_eq_true (by first | (with_reducible assumption) | assumption)
               obtain ⟨ad574, e574, hx574_0⟩ := Kd.at_int HR565.out x13_1 p574 q574
               cases e574
               replace hx574_0 := (HB.out.cell (World.block_lt_of_cell? w _ hx574_0)).trans hx574_0
               replace p574 := eq_true p574
               replace q574 := eq_true q574
               have q574x : (x13_1 < (max ji8 0)) = True := by rw [← (show ((l1.take ((ji8) : Int).toNat).length : Int) = max ji8 0 from by rw [List.length_take]; have h_ := hji8_; split at h_ <;> omega)]; exact q574
               have p575 : 0 ≤ (x13_1 : Int) := of_decide_eq_true (by first | (with_reducible assumption) | assumption)
               have q575 : x13_1 < ((l0.take ((ji5) : Int).toNat).length : Int) := of_decide_eq_true (by first | (with_reducible assumption) | assumption)
               obtain ⟨ad575, e575, hx575_0⟩ := Kd.at_int HR564.out x13_1 p575 q575
               cases e575
               replace hx575_0 := (HB.out.cell (World.block_lt_of_cell? w _ hx575_0)).trans hx575_0
               replace p575 := eq_true p575
               replace q575 := eq_true q575
               have q575x : (x13_1 < (max ji5 0)) = True := by rw [← (show ((l0.take ((ji5) : Int).toNat).length : Int) = max ji5 0 from by rw [List.length_take]; have h_ := hji5_; split at h_ <;> omega)]; exact q575
               have p576 : 0 ≤ (x13_1 : Int) := of_decide_eq_true (by first | (with_reducible assumption) | assumption)
               have q576 : x13_1 < (t566.length : Int) := of_decide_eq_true (by first | (with_reducible assumption) | assumption)
               obtain ⟨ad576, e576, hx576_0⟩ := Kd.at_int (Kd.R_reads' HO_8.out).2.2 x13_1 p576 q576
               cases e576
               replace p576 := eq_true p576
               replace q576 := eq_true q576
               have p577 : 0 ≤ (x13_1 : Int) := of_decide_eq_true (by first | (with_reducible assumption) | assumption)
               have q577 : x13_1 < (t566.length : Int) := of_decide_eq_true (by first | (with_reducible assumption) | assumption)
               obtain ⟨ad577, e577, hx577_0⟩ := Kd.at_int (Kd.R_reads' HO_8.out).2.2 x13_1 p577 q577
               obtain rfl : ad576 = ad577 := (by injection e577)
               replace p577 := eq_true p577
               replace q577 := eq_true q577
               have p578 : 0 ≤ (x13_1 : Int) := of_decide_eq_true (by first | (with_reducible assumption) | assumption)
               have q578 : x13_1 < ((l0.take ((ji5) : Int).toNat).length : Int) := of_decide_eq_true (by first | (with_reducible assumption) | assumption)
               obtain ⟨ad578, e578, hx578_0⟩ := Kd.at_int HR564.out x13_1 p578 q578
               obtain rfl : ad575 = ad578 := (by injection e578)
               replace hx578_0 := (HB.out.cell (World.block_lt_of_cell? w _ hx578_0)).trans hx578_0
               replace p578 := eq_true p578
               replace q578 := eq_true q578
               have q578x : (x13_1 < (max ji5 0)) = True := by rw [← (show ((l0.take ((ji5) : Int).toNat).length : Int) = max ji5 0 from by rw [List.length_take]; have h_ := hji5_; split at h_ <;> omega)]; exact q578
               go_wp2
               repeat (go_quiet (fail); try go_wp2)
               go_roundg k1
               case measure => have := HK1.out; omega
               case rel => exact ⟨(((rd (l1.take ((ji8) : Int).toNat) x13_1) == (-1))), (wrap64 (x11_1 + (rd (l0.take ((ji5) : Int).toNat) x13_1))), (wrap64 (x12_1 + (rd t566 x13_1))), (wrap64 (x13_1 + 1)), (by first | rfl | (simp; done) | (simp only [← hji8] <;> (first | rfl | simp)) | (simp [*]; done)), (by first | rfl | (simp; done) | (simp only [← hji5] <;> (first | rfl | simp)) | (simp [*]; done)), (by first | rfl | (simp; done) | (simp [*]; done)), (by first | rfl | (simp; done) | (simp [*]; done)), H', ⟨by have := HK1.out; omega⟩, ⟨by (with_reducible repeat (first | apply Kd.R_alloc | apply Kd.R_drewN | apply Kd.R_drew)); exact HO_8.out⟩, ⟨by repeat (first | (with_reducible first | exact HB.out | apply below_alloc | apply pw_below_drewN | apply below_drew1) | exact HB.out)⟩⟩
             ·rw [if_neg c26] at H
              exact absurd H (by simp)
            ·rw [if_neg c25] at H
             exact absurd H (by simp)
           ·rw [if_neg c24] at H
            exact absurd H (by simp)
         ·rw [if_neg c19] at H
          have c19b0 : decide (x13_1 < ((l0.take ((ji5) : Int).toNat).length : Int)) = false := decide_eq_false c19
          have c19b0x : decide (x13_1 < (max ji5 0)) = false := by rw [← (show ((l0.take ((ji5) : Int).toNat).length : Int) = max ji5 0 from by rw [List.length_take]; have h_ := hji5_; split at h_ <;> omega)]; exact c19b0
          clear c19
          have H' := Aside0.mk H
          clear H
          go_wp2
          repeat (go_quiet (fail); try go_wp2)
          go_loopg [14] k1 (fun kq v14 w' => ∃ (x14_2 : Int), v14 = .int .i64 x14_2 ∧ Aside0 (purflinglaw16_HeightsAdd.l1 kq (l0.take ((ji5) : Int).toNat) (l1.take ((ji8) : Int).toNat) a2 t563 t566 x10_1 x11_1 x12_1 x14_2 = some r) ∧ Aside0 (kq ≤ k1) ∧ Aside0 (Kd.R (Kd.int .i64) 2 w' w.heap.size (fun _ => True) (.slice Ao18 t566.length co18) t566) ∧ Aside0 (Below w.heap.size w w'))
          case atStart => exact ⟨(0), (by first | rfl | (simp; done) | (simp [*]; done)), H', ⟨Nat.le_refl _⟩, ⟨by (with_reducible repeat (first | apply Kd.R_alloc | apply Kd.R_drewN | apply Kd.R_drew)); exact HO_8.out⟩, ⟨by repeat (first | (with_reducible first | exact HB.out | apply below_alloc | apply pw_below_drewN | apply below_drew1) | exact HB.out)⟩⟩
          case round =>
           clear H'
           try clear c1
           try clear c2
           try clear p2
           try clear p5
           try clear q5
           try clear hx5
           try clear c6
           try clear c6b0
           try clear c6b1
           try clear p6
           try clear c7
           try clear c7b0
           try clear c7b1
           try clear c9
           try clear c9b0
           try clear c9b1
           try clear c10
           try clear c10b0
           try clear c10b1
           try clear c11
           try clear c12
           try clear c12b0
           try clear c12b1
           try clear c13
           try clear c13b0
           try clear c13b1
           try clear c13b2
           try clear c19
           try clear c19b0
           try clear c20
           try clear c21
           try clear c21b0
           try clear c22
           try clear c22b0
           try clear c23
           try clear c23b0
           try clear c24
           try clear c24b0
           try clear c25
           try clear c25b0
           try clear c26
           try clear c26b0
           try clear c27
           try clear c27b0
           try clear hx570_0
           try clear hx571_0
           try clear hx572_0
           try clear hx573_0
           try clear hx574_0
           try clear hx575_0
           try clear hx576_0
           try clear hx577_0
           try clear hx578_0
           try clear p2
           try clear p570
           try clear p571
           try clear p572
           try clear p573
           try clear p574
           try clear p575
           try clear p576
           try clear p577
           try clear p578
           try clear q570
           try clear q571
           try clear q572
           try clear q573
           try clear q574
           try clear q575
           try clear q576
           try clear q577
           try clear q578
           obtain ⟨x14_2, rfl, HA, HK2, HO_8, HB⟩ := hrel
           cases gk with
           | zero => exact absurd HA.out (by simp [purflinglaw16_HeightsAdd.l1])
           | succ k2 =>
            have H := HA.out
            clear HA
            simp only [purflinglaw16_HeightsAdd.l1] at H
            have HC28 := Aside0.mk H
            clear H
            go_upto_region 21 with (fail)
            repeat (go_quiet (fail); go_upto_region 21 with (fail))
            go_cut [87] (fun v87 wc => ∃ (kq : Nat) (x87_27 : Bool), v87 = .bool x87_27 ∧ Aside0 (purflinglaw16_HeightsAdd.j2 kq (l0.take ((ji5) : Int).toNat) (l1.take ((ji8) : Int).toNat) a2 t563 t566 x10_1 x11_1 x12_1 x14_2 x87_27 = some r) ∧ Aside0 (kq ≤ k2) ∧ Aside0 (Kd.R (Kd.int .i64) 2 wc w.heap.size (fun _ => True) (.slice Ao18 t566.length co18) t566) ∧ Aside0 (Below w.heap.size w wc))
            case first =>
             have H := HC28.out
             clear HC28
             by_cases c29 : x14_2 < ((l0.take ((ji5) : Int).toNat).length : Int)
             ·rw [if_pos c29] at H
              have c29b0 : decide (x14_2 < ((l0.take ((ji5) : Int).toNat).length : Int)) = true := decide_eq_true c29
              have c29b0x : decide (x14_2 < (max ji5 0)) = true := by rw [← (show ((l0.take ((ji5) : Int).toNat).length : Int) = max ji5 0 from by rw [List.length_take]; have h_ := hji5_; split at h_ <;> omega)]; exact c29b0
              clear c29
              (first | rw [c29b0] | (simp only [i64_w, i32_w]; rw [c29b0]) | skip)
              have H' := Aside0.mk H
              clear H
              go_wp2
              repeat (go_quiet (fail); try go_wp2)
              go_meet
              case rel => exact ⟨_, (x10_1), (by first | rfl | (simp; done) | (simp [*]; done)), H', ⟨by have := HK1.out; have := HK2.out; first | omega | exact Nat.le_refl _⟩, ⟨by (with_reducible repeat (first | apply Kd.R_alloc | apply Kd.R_drewN | apply Kd.R_drew)); exact HO_8.out⟩, ⟨by repeat (first | (with_reducible first | exact HB.out | apply below_alloc | apply pw_below_drewN | apply below_drew1) | exact HB.out)⟩⟩
             ·rw [if_neg c29] at H
              have c29b0 : decide (x14_2 < ((l0.take ((ji5) : Int).toNat).length : Int)) = false := decide_eq_false c29
              have c29b0x : decide (x14_2 < (max ji5 0)) = false := by rw [← (show ((l0.take ((ji5) : Int).toNat).length : Int) = max ji5 0 from by rw [List.length_take]; have h_ := hji5_; split at h_ <;> omega)]; exact c29b0
              clear c29
              (first | rw [c29b0] | (simp only [i64_w, i32_w]; rw [c29b0]) | skip)
              have H' := Aside0.mk H
              clear H
              go_wp2
              repeat (go_quiet (fail); try go_wp2)
              go_meet
              case rel => exact ⟨_, (false), (by first | rfl | (simp; done) | (simp [*]; done)), H', ⟨by have := HK1.out; have := HK2.out; first | omega | exact Nat.le_refl _⟩, ⟨by (with_reducible repeat (first | apply Kd.R_alloc | apply Kd.R_drewN | apply Kd.R_drew)); exact HO_8.out⟩, ⟨by repeat (first | (with_reducible first | exact HB.out | apply below_alloc | apply pw_below_drewN | apply below_drew1) | exact HB.out)⟩⟩
            case rest =>
             clear HC28
             try clear c1
             try clear c2
             try clear p2
             try clear p5
             try clear q5
             try clear hx5
             try clear c6
             try clear c6b0
             try clear c6b1
             try clear p6
             try clear c7
             try clear c7b0
             try clear c7b1
             try clear c9
             try clear c9b0
             try clear c9b1
             try clear c10
             try clear c10b0
             try clear c10b1
             try clear c11
             try clear c12
             try clear c12b0
             try clear c12b1
             try clear c13
             try clear c13b0
             try clear c13b1
             try clear c13b2
             try clear c19
             try clear c19b0
             try clear c20
             try clear c21
             try clear c21b0
             try clear c22
             try clear c22b0
             try clear c23
             try clear c23b0
             try clear c24
             try clear c24b0
             try clear c25
             try clear c25b0
             try clear c26
             try clear c26b0
             try clear c27
             try clear c27b0
             try clear c29
             try clear c29b0
             try clear hx570_0
             try clear hx571_0
             try clear hx572_0
             try clear hx573_0
             try clear hx574_0
             try clear hx575_0
             try clear hx576_0
             try clear hx577_0
             try clear hx578_0
             try clear p2
             try clear p5
             try clear p570
             try clear p571
             try clear p572
             try clear p573
             try clear p574
             try clear p575
             try clear p576
             try clear p577
             try clear p578
             try clear p6
             try clear q5
             try clear q570
             try clear q571
             try clear q572
             try clear q573
             try clear q574
             try clear q575
             try clear q576
             try clear q577
             try clear q578
             obtain ⟨kq, x87_27, rfl, HA, HJ27, HO_8, HB⟩ := hcut
             cases kq with
             | zero => exact absurd HA.out (by simp [purflinglaw16_HeightsAdd.j2])
             | succ kj27 =>
              have H := HA.out
              clear HA
              simp only [purflinglaw16_HeightsAdd.j2] at H
              by_cases c30 : x87_27 = true
              ·subst c30
               have H1 : (if 0 ≤ x14_2 then (if x14_2 < ((l1.take ((ji8) : Int).toNat).length : Int) then (if (rd (l1.take ((ji8) : Int).toNat) x14_2) ≥ 0 then (if x14_2 < (t566.length : Int) then (if x14_2 < ((l0.take ((ji5) : Int).toNat).length : Int) then (if (rd t566 x14_2) = (rd (l0.take ((ji5) : Int).toNat) x14_2) then (purflinglaw16_HeightsAdd.l1 kj27 (l0.take ((ji5) : Int).toNat) (l1.take ((ji8) : Int).toNat) a2 t563 t566 x10_1 x11_1 x12_1 (wrap64 (x14_2 + 1))) else (some false)) else (none)) else (none)) else (purflinglaw16_HeightsAdd.l1 kj27 (l0.take ((ji5) : Int).toNat) (l1.take ((ji8) : Int).toNat) a2 t563 t566 x10_1 x11_1 x12_1 (wrap64 (x14_2 + 1)))) else (none)) else (none)) = some r := by rw [if_pos rfl] at H; exact H
               clear H
               have H := H1
               clear H1
               by_cases c31 : 0 ≤ x14_2
               ·rw [if_pos c31] at H
                have c31b0 : decide (0 ≤ x14_2) = true := decide_eq_true c31
                clear c31
                by_cases c32 : x14_2 < ((l1.take ((ji8) : Int).toNat).length : Int)
                ·rw [if_pos c32] at H
                 have c32b0 : decide (x14_2 < ((l1.take ((ji8) : Int).toNat).length : Int)) = true := decide_eq_true c32
                 have c32b0x : decide (x14_2 < (max ji8 0)) = true := by rw [← (show ((l1.take ((ji8) : Int).toNat).length : Int) = max ji8 0 from by rw [List.length_take]; have h_ := hji8_; split at h_ <;> omega)]; exact c32b0
                 clear c32
                 by_cases c33 : (rd (l1.take ((ji8) : Int).toNat) x14_2) ≥ 0
                 ·rw [if_pos c33] at H
                  have c33b0 : decide (0 ≤ (rd (l1.take ((ji8) : Int).toNat) x14_2)) = true := decide_eq_true c33
                  clear c33
                  by_cases c34 : x14_2 < (t566.length : Int)
                  ·rw [if_pos c34] at H
                   have c34b0 : decide (x14_2 < (t566.length : Int)) = true := decide_eq_true c34
                   clear c34
                   by_cases c35 : x14_2 < ((l0.take ((ji5) : Int).toNat).length : Int)
                   ·rw [if_pos c35] at H
                    have c35b0 : decide (x14_2 < ((l0.take ((ji5) : Int).toNat).length : Int)) = true := decide_eq_true c35
                    have c35b0x : decide (x14_2 < (max ji5 0)) = true := by rw [← (show ((l0.take ((ji5) : Int).toNat).length : Int) = max ji5 0 from by rw [List.length_take]; have h_ := hji5_; split at h_ <;> omega)]; exact c35b0
                    clear c35
                    by_cases c36 : (rd t566 x14_2) = (rd (l0.take ((ji5) : Int).toNat) x14_2)
                    ·rw [if_pos c36] at H
                     have c36b0 : ((rd t566 x14_2) == (rd (l0.take ((ji5) : Int).toNat) x14_2)) = true := beq_iff_eq.mpr c36
                     have c36b1 : ((rd t566 x14_2) != (rd (l0.take ((ji5) : Int).toNat) x14_2)) = false := bne_eq_false_iff_eq.mpr c36
                     clear c36
                     have H' := Aside0.mk H
                     clear H
                     have p579 : 0 ≤ (x14_2 : Int) := of_decide_eq_true (by first | (with_reducible assumption) | assumption)
                     have q579 : x14_2 < ((l1.take ((ji8) : Int).toNat).length : Int) := of_decide_eq_true (by first | (with_reducible assumption) | assumption)
                     obtain ⟨ad579, e579, hx579_0⟩ := Kd.at_int HR565.out x14_2 p579 q579
                     cases e579
                     replace hx579_0 := (HB.out.cell (World.block_lt_of_cell? w _ hx579_0)).trans hx579_0
                     replace p579 := eq_true p579
                     replace q579 := eq_true q579
                     have q579x : (x14_2 < (max ji8 0)) = True := by rw [← (show ((l1.take ((ji8) : Int).toNat).length : Int) = max ji8 0 from by rw [List.length_take]; have h_ := hji8_; split at h_ <;> omega)]; exact q579
                     have p580 : 0 ≤ (x14_2 : Int) := of_decide_eq_true (by first | (with_reducible assumption) | assumption)
                     have q580 : x14_2 < (t566.length : Int) := of_decide_eq_true (by first | (with_reducible assumption) | assumption)
                     obtain ⟨ad580, e580, hx580_0⟩ := Kd.at_int (Kd.R_reads' HO_8.out).2.2 x14_2 p580 q580
                     cases e580
                     replace p580 := eq_true p580
                     replace q580 := eq_true q580
                     have p581 : 0 ≤ (x14_2 : Int) := of_decide_eq_true (by first | (with_reducible assumption) | assumption)
                     have q581 : x14_2 < ((l0.take ((ji5) : Int).toNat).length : Int) := of_decide_eq_true (by first | (with_reducible assumption) | assumption)
                     obtain ⟨ad581, e581, hx581_0⟩ := Kd.at_int HR564.out x14_2 p581 q581
                     cases e581
                     replace hx581_0 := (HB.out.cell (World.block_lt_of_cell? w _ hx581_0)).trans hx581_0
                     replace p581 := eq_true p581
                     replace q581 := eq_true q581
                     have q581x : (x14_2 < (max ji5 0)) = True := by rw [← (show ((l0.take ((ji5) : Int).toNat).length : Int) = max ji5 0 from by rw [List.length_take]; have h_ := hji5_; split at h_ <;> omega)]; exact q581
                     go_wp2
                     repeat (go_quiet (fail); try go_wp2)
                     go_roundg kj27
                     case measure => have := HK1.out; have := HK2.out; have := HJ27.out; omega
                     case rel => exact ⟨(wrap64 (x14_2 + 1)), (by first | rfl | (simp; done) | (simp [*]; done)), H', ⟨by have := HK1.out; have := HK2.out; have := HJ27.out; omega⟩, ⟨by (with_reducible repeat (first | apply Kd.R_alloc | apply Kd.R_drewN | apply Kd.R_drew)); exact HO_8.out⟩, ⟨by repeat (first | (with_reducible first | exact HB.out | apply below_alloc | apply pw_below_drewN | apply below_drew1) | exact HB.out)⟩⟩
                    ·rw [if_neg c36] at H
                     have c36b0 : ((rd t566 x14_2) == (rd (l0.take ((ji5) : Int).toNat) x14_2)) = false := beq_eq_false_iff_ne.mpr c36
                     have c36b1 : ((rd t566 x14_2) != (rd (l0.take ((ji5) : Int).toNat) x14_2)) = true := bne_iff_ne.mpr c36
                     obtain rfl := Option.some.inj H
                     have p579 : 0 ≤ (x14_2 : Int) := of_decide_eq_true (by first | (with_reducible assumption) | assumption)
                     have q579 : x14_2 < ((l1.take ((ji8) : Int).toNat).length : Int) := of_decide_eq_true (by first | (with_reducible assumption) | assumption)
                     obtain ⟨ad579, e579, hx579_0⟩ := Kd.at_int HR565.out x14_2 p579 q579
                     cases e579
                     replace hx579_0 := (HB.out.cell (World.block_lt_of_cell? w _ hx579_0)).trans hx579_0
                     replace p579 := eq_true p579
                     replace q579 := eq_true q579
                     have q579x : (x14_2 < (max ji8 0)) = True := by rw [← (show ((l1.take ((ji8) : Int).toNat).length : Int) = max ji8 0 from by rw [List.length_take]; have h_ := hji8_; split at h_ <;> omega)]; exact q579
                     have p580 : 0 ≤ (x14_2 : Int) := of_decide_eq_true (by first | (with_reducible assumption) | assumption)
                     have q580 : x14_2 < (t566.length : Int) := of_decide_eq_true (by first | (with_reducible assumption) | assumption)
                     obtain ⟨ad580, e580, hx580_0⟩ := Kd.at_int (Kd.R_reads' HO_8.out).2.2 x14_2 p580 q580
                     cases e580
                     replace p580 := eq_true p580
                     replace q580 := eq_true q580
                     have p581 : 0 ≤ (x14_2 : Int) := of_decide_eq_true (by first | (with_reducible assumption) | assumption)
                     have q581 : x14_2 < ((l0.take ((ji5) : Int).toNat).length : Int) := of_decide_eq_true (by first | (with_reducible assumption) | assumption)
                     obtain ⟨ad581, e581, hx581_0⟩ := Kd.at_int HR564.out x14_2 p581 q581
                     cases e581
                     replace hx581_0 := (HB.out.cell (World.block_lt_of_cell? w _ hx581_0)).trans hx581_0
                     replace p581 := eq_true p581
                     replace q581 := eq_true q581
                     have q581x : (x14_2 < (max ji5 0)) = True := by rw [← (show ((l0.take ((ji5) : Int).toNat).length : Int) = max ji5 0 from by rw [List.length_take]; have h_ := hji5_; split at h_ <;> omega)]; exact q581
                     go_wp2
                     repeat (go_quiet (fail); try go_wp2)
                     go_ret
                     exact ⟨by first | rfl | (simp [errW_none, errW_some] <;> rfl) | (simp only [← hji5, ← hji8]; first | rfl | (simp [errW_none, errW_some] <;> rfl)) | (simp [*, errW_none, errW_some] <;> rfl), by repeat (first | (with_reducible first | exact HB.out | apply below_alloc | apply pw_below_drewN | apply below_drew1) | exact HB.out)⟩
                   ·rw [if_neg c35] at H
                    exact absurd H (by simp)
                  ·rw [if_neg c34] at H
                   exact absurd H (by simp)
                 ·rw [if_neg c33] at H
                  have c33b0 : decide (0 ≤ (rd (l1.take ((ji8) : Int).toNat) x14_2)) = false := decide_eq_false c33
                  clear c33
                  have H' := Aside0.mk H
                  clear H
                  have p579 : 0 ≤ (x14_2 : Int) := of_decide_eq_true (by first | (with_reducible assumption) | assumption)
                  have q579 : x14_2 < ((l1.take ((ji8) : Int).toNat).length : Int) := of_decide_eq_true (by first | (with_reducible assumption) | assumption)
                  obtain ⟨ad579, e579, hx579_0⟩ := Kd.at_int HR565.out x14_2 p579 q579
                  cases e579
                  replace hx579_0 := (HB.out.cell (World.block_lt_of_cell? w _ hx579_0)).trans hx579_0
                  replace p579 := eq_true p579
                  replace q579 := eq_true q579
                  have q579x : (x14_2 < (max ji8 0)) = True := by rw [← (show ((l1.take ((ji8) : Int).toNat).length : Int) = max ji8 0 from by rw [List.length_take]; have h_ := hji8_; split at h_ <;> omega)]; exact q579
                  go_wp2
                  repeat (go_quiet (fail); try go_wp2)
                  go_roundg kj27
                  case measure => have := HK1.out; have := HK2.out; have := HJ27.out; omega
                  case rel => exact ⟨(wrap64 (x14_2 + 1)), (by first | rfl | (simp; done) | (simp [*]; done)), H', ⟨by have := HK1.out; have := HK2.out; have := HJ27.out; omega⟩, ⟨by (with_reducible repeat (first | apply Kd.R_alloc | apply Kd.R_drewN | apply Kd.R_drew)); exact HO_8.out⟩, ⟨by repeat (first | (with_reducible first | exact HB.out | apply below_alloc | apply pw_below_drewN | apply below_drew1) | exact HB.out)⟩⟩
                ·rw [if_neg c32] at H
                 exact absurd H (by simp)
               ·rw [if_neg c31] at H
                exact absurd H (by simp)
              ·replace c30 := Bool.eq_false_iff.mpr c30
               subst c30
               have H1 : (if t563 = true then (some (x12_1 == (mx x11_1 a2))) else (some false)) = some r := by rw [if_neg (show ¬ (false = true) by decide)] at H; exact H
               clear H
               have H := H1
               clear H1
               by_cases c37 : t563 = true
               ·subst c37
                have H1 : (some (x12_1 == (mx x11_1 a2))) = some r := by rw [if_pos rfl] at H; exact H
                clear H
                have H := H1
                clear H1
                obtain ⟨ji38, hji38⟩ : ∃ j_ : Int, (mx x11_1 a2) = j_ := ⟨_, rfl⟩
                replace H : (some (x12_1 == (ji38))) = some r := by first | (rw [hji38] at H; exact H) | (simp only [hji38] at H ⊢; exact H)
                have hji38_ : (if x11_1 < a2 then a2 else x11_1) = ji38 := hji38
                obtain rfl := Option.some.inj H
                go_wp2
                repeat (go_quiet (fail); try go_wp2)
                go_ret
                exact ⟨by first | rfl | (simp [errW_none, errW_some] <;> rfl) | (simp only [← hji5, ← hji8, ← hji38]; first | rfl | (simp [errW_none, errW_some] <;> rfl)) | (simp [*, errW_none, errW_some] <;> rfl), by repeat (first | (with_reducible first | exact HB.out | apply below_alloc | apply pw_below_drewN | apply below_drew1) | exact HB.out)⟩
               ·replace c37 := Bool.eq_false_iff.mpr c37
                subst c37
                have H1 : (some false) = some r := by rw [if_neg (show ¬ (false = true) by decide)] at H; exact H
                clear H
                have H := H1
                clear H1
                obtain rfl := Option.some.inj H
                go_wp2
                repeat (go_quiet (fail); try go_wp2)
                go_ret
                exact ⟨by first | rfl | (simp [errW_none, errW_some] <;> rfl) | (simp only [← hji5, ← hji8]; first | rfl | (simp [errW_none, errW_some] <;> rfl)) | (simp [*, errW_none, errW_some] <;> rfl), by repeat (first | (with_reducible first | exact HB.out | apply below_alloc | apply pw_below_drewN | apply below_drew1) | exact HB.out)⟩
      ·rw [if_neg c13] at H
       have c13b0 : ((t566.length : Int) == ((l0.take ((ji5) : Int).toNat).length : Int)) = false := beq_eq_false_iff_ne.mpr c13
       have c13b0x : ((t566.length : Int) == (max ji5 0)) = false := by rw [← (show ((l0.take ((ji5) : Int).toNat).length : Int) = max ji5 0 from by rw [List.length_take]; have h_ := hji5_; split at h_ <;> omega)]; exact c13b0
       have c13b1 : ((t566.length : Int) != ((l0.take ((ji5) : Int).toNat).length : Int)) = true := bne_iff_ne.mpr c13
       have c13b1x : ((t566.length : Int) != (max ji5 0)) = true := by rw [← (show ((l0.take ((ji5) : Int).toNat).length : Int) = max ji5 0 from by rw [List.length_take]; have h_ := hji5_; split at h_ <;> omega)]; exact c13b1
       have c13b2 : (t566.length == (l0.take ((ji5) : Int).toNat).length) = false := by first | simpa using c13 | (simp at c13 ⊢; omega)
       obtain rfl := Option.some.inj H
       go_enter Try.func11, Try.ntmps11
       go_wp2_with (first | (go_at_call 23; (with_reducible refine (purflinglaw16_shown.calls k  t563 _ A4.out).mono ?_); rintro e w39 ⟨rfl, hb⟩; have n0_ := Aside0.mk (below_step (by repeat (first | (with_reducible first | exact HB.out | apply below_alloc | apply pw_below_drewN | apply below_drew1) | exact HB.out)) hb); clear HB; have HB := n0_; clear n0_; (try clear hb); (try clear hb2); (try clear hk); (try clear hi); obtain ⟨i040, hi040, _, hsz40, _⟩ := info_parts info2; obtain ⟨hcut40, hA40, hC40⟩ := print_take_of (P := Try.prog) (Value.int .i64) 0 46 2 .i64 Try.underlying46 hi040 hsz40 A0 c0 l0 (ji5) (of_decide_eq_true (by first | (with_reducible assumption) | assumption)) (of_decide_eq_true (by first | (with_reducible assumption) | assumption)) HC0.out; have HR564 := Aside0.mk (Kd.C_of_reads (h1 := fun _ => rfl) (hA40 _ (Kd.reads_of_C HR0.out))); have HC564 := Aside0.mk hC40; clear hA40 hC40 hi040 hsz40; obtain ⟨i041, hi041, _, hsz41, _⟩ := info_parts info2; obtain ⟨hcut41, hA41, hC41⟩ := print_take_of (P := Try.prog) (Value.int .i64) 0 46 2 .i64 Try.underlying46 hi041 hsz41 A1 c1 l1 (ji8) (of_decide_eq_true (by first | (with_reducible assumption) | assumption)) (of_decide_eq_true (by first | (with_reducible assumption) | assumption)) HC1.out; have HR565 := Aside0.mk (Kd.C_of_reads (h1 := fun _ => rfl) (hA41 _ (Kd.reads_of_C HR1.out))); have HC565 := Aside0.mk hC41; clear hA41 hC41 hi041 hsz41) | (go_at_call 30; (try rw [show (ji5 : Int).toNat = (l0.take ((ji5) : Int).toNat).length from by rw [List.length_take]; have h_ := hji5_; split at h_ <;> omega]); (try rw [show (ji8 : Int).toNat = (l1.take ((ji8) : Int).toNat).length from by rw [List.length_take]; have h_ := hji8_; split at h_ <;> omega]); (with_reducible refine (heights_Stretch.calls _ _ (l0.take ((ji5) : Int).toNat) _ _ (l1.take ((ji8) : Int).toNat) a2 t566 t567 _ ?side1 ?side2 ?side3 ?side4 A11.out).mono ?_); (case side1 => repeat (first | exact (Kd.C_below HR564.out HB.out) | (with_reducible refine Kd.C_alloc ?_ _) | (with_reducible refine Kd.C_drewN ?_ _) | (with_reducible refine Kd.C_drew ?_))); (case side2 => exact HC564.out); (case side3 => repeat (first | exact (Kd.C_below HR565.out HB.out) | (with_reducible refine Kd.C_alloc ?_ _) | (with_reducible refine Kd.C_drewN ?_ _) | (with_reducible refine Kd.C_drew ?_))); (case side4 => exact HC565.out); rintro e w42 ⟨v568, rfl, ho0, hb⟩; have n0_ := Aside0.mk (Kd.R_lower ho0 (below_size (by repeat (first | (with_reducible first | exact HB.out | apply below_alloc | apply pw_below_drewN | apply below_drew1) | exact HB.out)))); have n1_ := Aside0.mk (below_step (by repeat (first | (with_reducible first | exact HB.out | apply below_alloc | apply pw_below_drewN | apply below_drew1) | exact HB.out)) hb); clear HB; have HO569 := n0_; have HB := n1_; clear n0_ n1_; (try clear hb); (try clear hb2); (try clear hk); (try clear hi); (try clear ho0); obtain ⟨Ao43, co43, eo43⟩ := Kd.R_slice HO569.out; subst eo43))
       repeat (go_quiet (first | (go_at_call 23; (with_reducible refine (purflinglaw16_shown.calls k  t563 _ A4.out).mono ?_); rintro e w39 ⟨rfl, hb⟩; have n0_ := Aside0.mk (below_step (by repeat (first | (with_reducible first | exact HB.out | apply below_alloc | apply pw_below_drewN | apply below_drew1) | exact HB.out)) hb); clear HB; have HB := n0_; clear n0_; (try clear hb); (try clear hb2); (try clear hk); (try clear hi); obtain ⟨i040, hi040, _, hsz40, _⟩ := info_parts info2; obtain ⟨hcut40, hA40, hC40⟩ := print_take_of (P := Try.prog) (Value.int .i64) 0 46 2 .i64 Try.underlying46 hi040 hsz40 A0 c0 l0 (ji5) (of_decide_eq_true (by first | (with_reducible assumption) | assumption)) (of_decide_eq_true (by first | (with_reducible assumption) | assumption)) HC0.out; have HR564 := Aside0.mk (Kd.C_of_reads (h1 := fun _ => rfl) (hA40 _ (Kd.reads_of_C HR0.out))); have HC564 := Aside0.mk hC40; clear hA40 hC40 hi040 hsz40; obtain ⟨i041, hi041, _, hsz41, _⟩ := info_parts info2; obtain ⟨hcut41, hA41, hC41⟩ := print_take_of (P := Try.prog) (Value.int .i64) 0 46 2 .i64 Try.underlying46 hi041 hsz41 A1 c1 l1 (ji8) (of_decide_eq_true (by first | (with_reducible assumption) | assumption)) (of_decide_eq_true (by first | (with_reducible assumption) | assumption)) HC1.out; have HR565 := Aside0.mk (Kd.C_of_reads (h1 := fun _ => rfl) (hA41 _ (Kd.reads_of_C HR1.out))); have HC565 := Aside0.mk hC41; clear hA41 hC41 hi041 hsz41) | (go_at_call 30; (try rw [show (ji5 : Int).toNat = (l0.take ((ji5) : Int).toNat).length from by rw [List.length_take]; have h_ := hji5_; split at h_ <;> omega]); (try rw [show (ji8 : Int).toNat = (l1.take ((ji8) : Int).toNat).length from by rw [List.length_take]; have h_ := hji8_; split at h_ <;> omega]); (with_reducible refine (heights_Stretch.calls _ _ (l0.take ((ji5) : Int).toNat) _ _ (l1.take ((ji8) : Int).toNat) a2 t566 t567 _ ?side1 ?side2 ?side3 ?side4 A11.out).mono ?_); (case side1 => repeat (first | exact (Kd.C_below HR564.out HB.out) | (with_reducible refine Kd.C_alloc ?_ _) | (with_reducible refine Kd.C_drewN ?_ _) | (with_reducible refine Kd.C_drew ?_))); (case side2 => exact HC564.out); (case side3 => repeat (first | exact (Kd.C_below HR565.out HB.out) | (with_reducible refine Kd.C_alloc ?_ _) | (with_reducible refine Kd.C_drewN ?_ _) | (with_reducible refine Kd.C_drew ?_))); (case side4 => exact HC565.out); rintro e w42 ⟨v568, rfl, ho0, hb⟩; have n0_ := Aside0.mk (Kd.R_lower ho0 (below_size (by repeat (first | (with_reducible first | exact HB.out | apply below_alloc | apply pw_below_drewN | apply below_drew1) | exact HB.out)))); have n1_ := Aside0.mk (below_step (by repeat (first | (with_reducible first | exact HB.out | apply below_alloc | apply pw_below_drewN | apply below_drew1) | exact HB.out)) hb); clear HB; have HO569 := n0_; have HB := n1_; clear n0_ n1_; (try clear hb); (try clear hb2); (try clear hk); (try clear hi); (try clear ho0); obtain ⟨Ao43, co43, eo43⟩ := Kd.R_slice HO569.out; subst eo43)); try go_wp2_with (first | (go_at_call 23; (with_reducible refine (purflinglaw16_shown.calls k  t563 _ A4.out).mono ?_); rintro e w39 ⟨rfl, hb⟩; have n0_ := Aside0.mk (below_step (by repeat (first | (with_reducible first | exact HB.out | apply below_alloc | apply pw_below_drewN | apply below_drew1) | exact HB.out)) hb); clear HB; have HB := n0_; clear n0_; (try clear hb); (try clear hb2); (try clear hk); (try clear hi); obtain ⟨i040, hi040, _, hsz40, _⟩ := info_parts info2; obtain ⟨hcut40, hA40, hC40⟩ := print_take_of (P := Try.prog) (Value.int .i64) 0 46 2 .i64 Try.underlying46 hi040 hsz40 A0 c0 l0 (ji5) (of_decide_eq_true (by first | (with_reducible assumption) | assumption)) (of_decide_eq_true (by first | (with_reducible assumption) | assumption)) HC0.out; have HR564 := Aside0.mk (Kd.C_of_reads (h1 := fun _ => rfl) (hA40 _ (Kd.reads_of_C HR0.out))); have HC564 := Aside0.mk hC40; clear hA40 hC40 hi040 hsz40; obtain ⟨i041, hi041, _, hsz41, _⟩ := info_parts info2; obtain ⟨hcut41, hA41, hC41⟩ := print_take_of (P := Try.prog) (Value.int .i64) 0 46 2 .i64 Try.underlying46 hi041 hsz41 A1 c1 l1 (ji8) (of_decide_eq_true (by first | (with_reducible assumption) | assumption)) (of_decide_eq_true (by first | (with_reducible assumption) | assumption)) HC1.out; have HR565 := Aside0.mk (Kd.C_of_reads (h1 := fun _ => rfl) (hA41 _ (Kd.reads_of_C HR1.out))); have HC565 := Aside0.mk hC41; clear hA41 hC41 hi041 hsz41) | (go_at_call 30; (try rw [show (ji5 : Int).toNat = (l0.take ((ji5) : Int).toNat).length from by rw [List.length_take]; have h_ := hji5_; split at h_ <;> omega]); (try rw [show (ji8 : Int).toNat = (l1.take ((ji8) : Int).toNat).length from by rw [List.length_take]; have h_ := hji8_; split at h_ <;> omega]); (with_reducible refine (heights_Stretch.calls _ _ (l0.take ((ji5) : Int).toNat) _ _ (l1.take ((ji8) : Int).toNat) a2 t566 t567 _ ?side1 ?side2 ?side3 ?side4 A11.out).mono ?_); (case side1 => repeat (first | exact (Kd.C_below HR564.out HB.out) | (with_reducible refine Kd.C_alloc ?_ _) | (with_reducible refine Kd.C_drewN ?_ _) | (with_reducible refine Kd.C_drew ?_))); (case side2 => exact HC564.out); (case side3 => repeat (first | exact (Kd.C_below HR565.out HB.out) | (with_reducible refine Kd.C_alloc ?_ _) | (with_reducible refine Kd.C_drewN ?_ _) | (with_reducible refine Kd.C_drew ?_))); (case side4 => exact HC565.out); rintro e w42 ⟨v568, rfl, ho0, hb⟩; have n0_ := Aside0.mk (Kd.R_lower ho0 (below_size (by repeat (first | (with_reducible first | exact HB.out | apply below_alloc | apply pw_below_drewN | apply below_drew1) | exact HB.out)))); have n1_ := Aside0.mk (below_step (by repeat (first | (with_reducible first | exact HB.out | apply below_alloc | apply pw_below_drewN | apply below_drew1) | exact HB.out)) hb); clear HB; have HO569 := n0_; have HB := n1_; clear n0_ n1_; (try clear hb); (try clear hb2); (try clear hk); (try clear hi); (try clear ho0); obtain ⟨Ao43, co43, eo43⟩ := Kd.R_slice HO569.out; subst eo43)))
       go_ret
       exact ⟨by first | rfl | (simp [errW_none, errW_some] <;> rfl) | (simp only [← hji5, ← hji8]; first | rfl | (simp [errW_none, errW_some] <;> rfl)) | (simp [*, errW_none, errW_some] <;> rfl), by repeat (first | (with_reducible first | exact HB.out | apply below_alloc | apply pw_below_drewN | apply below_drew1) | exact HB.out)⟩
     ·rw [if_neg c12] at H
      have c12b0 : (t567 == 0) = false := beq_eq_false_iff_ne.mpr c12
      have c12b1 : (t567 != 0) = true := bne_iff_ne.mpr c12
      by_cases c44 : t563 = true
      ·subst c44
       have H1 : (some ((t566.length : Int) == 0)) = some r := by rw [if_pos rfl] at H; exact H
       clear H
       have H := H1
       clear H1
       obtain rfl := Option.some.inj H
       go_enter Try.func11, Try.ntmps11
       go_wp2_with (first | (go_at_call 23; (with_reducible refine (purflinglaw16_shown.calls k  true _ A4.out).mono ?_); rintro e w45 ⟨rfl, hb⟩; have n0_ := Aside0.mk (below_step (by repeat (first | (with_reducible first | exact HB.out | apply below_alloc | apply pw_below_drewN | apply below_drew1) | exact HB.out)) hb); clear HB; have HB := n0_; clear n0_; (try clear hb); (try clear hb2); (try clear hk); (try clear hi); obtain ⟨i046, hi046, _, hsz46, _⟩ := info_parts info2; obtain ⟨hcut46, hA46, hC46⟩ := print_take_of (P := Try.prog) (Value.int .i64) 0 46 2 .i64 Try.underlying46 hi046 hsz46 A0 c0 l0 (ji5) (of_decide_eq_true (by first | (with_reducible assumption) | assumption)) (of_decide_eq_true (by first | (with_reducible assumption) | assumption)) HC0.out; have HR564 := Aside0.mk (Kd.C_of_reads (h1 := fun _ => rfl) (hA46 _ (Kd.reads_of_C HR0.out))); have HC564 := Aside0.mk hC46; clear hA46 hC46 hi046 hsz46; obtain ⟨i047, hi047, _, hsz47, _⟩ := info_parts info2; obtain ⟨hcut47, hA47, hC47⟩ := print_take_of (P := Try.prog) (Value.int .i64) 0 46 2 .i64 Try.underlying46 hi047 hsz47 A1 c1 l1 (ji8) (of_decide_eq_true (by first | (with_reducible assumption) | assumption)) (of_decide_eq_true (by first | (with_reducible assumption) | assumption)) HC1.out; have HR565 := Aside0.mk (Kd.C_of_reads (h1 := fun _ => rfl) (hA47 _ (Kd.reads_of_C HR1.out))); have HC565 := Aside0.mk hC47; clear hA47 hC47 hi047 hsz47) | (go_at_call 30; (try rw [show (ji5 : Int).toNat = (l0.take ((ji5) : Int).toNat).length from by rw [List.length_take]; have h_ := hji5_; split at h_ <;> omega]); (try rw [show (ji8 : Int).toNat = (l1.take ((ji8) : Int).toNat).length from by rw [List.length_take]; have h_ := hji8_; split at h_ <;> omega]); (with_reducible refine (heights_Stretch.calls _ _ (l0.take ((ji5) : Int).toNat) _ _ (l1.take ((ji8) : Int).toNat) a2 t566 t567 _ ?side1 ?side2 ?side3 ?side4 A11.out).mono ?_); (case side1 => repeat (first | exact (Kd.C_below HR564.out HB.out) | (with_reducible refine Kd.C_alloc ?_ _) | (with_reducible refine Kd.C_drewN ?_ _) | (with_reducible refine Kd.C_drew ?_))); (case side2 => exact HC564.out); (case side3 => repeat (first | exact (Kd.C_below HR565.out HB.out) | (with_reducible refine Kd.C_alloc ?_ _) | (with_reducible refine Kd.C_drewN ?_ _) | (with_reducible refine Kd.C_drew ?_))); (case side4 => exact HC565.out); rintro e w48 ⟨v568, rfl, ho0, hb⟩; have n0_ := Aside0.mk (Kd.R_lower ho0 (below_size (by repeat (first | (with_reducible first | exact HB.out | apply below_alloc | apply pw_below_drewN | apply below_drew1) | exact HB.out)))); have n1_ := Aside0.mk (below_step (by repeat (first | (with_reducible first | exact HB.out | apply below_alloc | apply pw_below_drewN | apply below_drew1) | exact HB.out)) hb); clear HB; have HO569 := n0_; have HB := n1_; clear n0_ n1_; (try clear hb); (try clear hb2); (try clear hk); (try clear hi); (try clear ho0); obtain ⟨Ao49, co49, eo49⟩ := Kd.R_slice HO569.out; subst eo49))
       repeat (go_quiet (first | (go_at_call 23; (with_reducible refine (purflinglaw16_shown.calls k  true _ A4.out).mono ?_); rintro e w45 ⟨rfl, hb⟩; have n0_ := Aside0.mk (below_step (by repeat (first | (with_reducible first | exact HB.out | apply below_alloc | apply pw_below_drewN | apply below_drew1) | exact HB.out)) hb); clear HB; have HB := n0_; clear n0_; (try clear hb); (try clear hb2); (try clear hk); (try clear hi); obtain ⟨i046, hi046, _, hsz46, _⟩ := info_parts info2; obtain ⟨hcut46, hA46, hC46⟩ := print_take_of (P := Try.prog) (Value.int .i64) 0 46 2 .i64 Try.underlying46 hi046 hsz46 A0 c0 l0 (ji5) (of_decide_eq_true (by first | (with_reducible assumption) | assumption)) (of_decide_eq_true (by first | (with_reducible assumption) | assumption)) HC0.out; have HR564 := Aside0.mk (Kd.C_of_reads (h1 := fun _ => rfl) (hA46 _ (Kd.reads_of_C HR0.out))); have HC564 := Aside0.mk hC46; clear hA46 hC46 hi046 hsz46; obtain ⟨i047, hi047, _, hsz47, _⟩ := info_parts info2; obtain ⟨hcut47, hA47, hC47⟩ := print_take_of (P := Try.prog) (Value.int .i64) 0 46 2 .i64 Try.underlying46 hi047 hsz47 A1 c1 l1 (ji8) (of_decide_eq_true (by first | (with_reducible assumption) | assumption)) (of_decide_eq_true (by first | (with_reducible assumption) | assumption)) HC1.out; have HR565 := Aside0.mk (Kd.C_of_reads (h1 := fun _ => rfl) (hA47 _ (Kd.reads_of_C HR1.out))); have HC565 := Aside0.mk hC47; clear hA47 hC47 hi047 hsz47) | (go_at_call 30; (try rw [show (ji5 : Int).toNat = (l0.take ((ji5) : Int).toNat).length from by rw [List.length_take]; have h_ := hji5_; split at h_ <;> omega]); (try rw [show (ji8 : Int).toNat = (l1.take ((ji8) : Int).toNat).length from by rw [List.length_take]; have h_ := hji8_; split at h_ <;> omega]); (with_reducible refine (heights_Stretch.calls _ _ (l0.take ((ji5) : Int).toNat) _ _ (l1.take ((ji8) : Int).toNat) a2 t566 t567 _ ?side1 ?side2 ?side3 ?side4 A11.out).mono ?_); (case side1 => repeat (first | exact (Kd.C_below HR564.out HB.out) | (with_reducible refine Kd.C_alloc ?_ _) | (with_reducible refine Kd.C_drewN ?_ _) | (with_reducible refine Kd.C_drew ?_))); (case side2 => exact HC564.out); (case side3 => repeat (first | exact (Kd.C_below HR565.out HB.out) | (with_reducible refine Kd.C_alloc ?_ _) | (with_reducible refine Kd.C_drewN ?_ _) | (with_reducible refine Kd.C_drew ?_))); (case side4 => exact HC565.out); rintro e w48 ⟨v568, rfl, ho0, hb⟩; have n0_ := Aside0.mk (Kd.R_lower ho0 (below_size (by repeat (first | (with_reducible first | exact HB.out | apply below_alloc | apply pw_below_drewN | apply below_drew1) | exact HB.out)))); have n1_ := Aside0.mk (below_step (by repeat (first | (with_reducible first | exact HB.out | apply below_alloc | apply pw_below_drewN | apply below_drew1) | exact HB.out)) hb); clear HB; have HO569 := n0_; have HB := n1_; clear n0_ n1_; (try clear hb); (try clear hb2); (try clear hk); (try clear hi); (try clear ho0); obtain ⟨Ao49, co49, eo49⟩ := Kd.R_slice HO569.out; subst eo49)); try go_wp2_with (first | (go_at_call 23; (with_reducible refine (purflinglaw16_shown.calls k  true _ A4.out).mono ?_); rintro e w45 ⟨rfl, hb⟩; have n0_ := Aside0.mk (below_step (by repeat (first | (with_reducible first | exact HB.out | apply below_alloc | apply pw_below_drewN | apply below_drew1) | exact HB.out)) hb); clear HB; have HB := n0_; clear n0_; (try clear hb); (try clear hb2); (try clear hk); (try clear hi); obtain ⟨i046, hi046, _, hsz46, _⟩ := info_parts info2; obtain ⟨hcut46, hA46, hC46⟩ := print_take_of (P := Try.prog) (Value.int .i64) 0 46 2 .i64 Try.underlying46 hi046 hsz46 A0 c0 l0 (ji5) (of_decide_eq_true (by first | (with_reducible assumption) | assumption)) (of_decide_eq_true (by first | (with_reducible assumption) | assumption)) HC0.out; have HR564 := Aside0.mk (Kd.C_of_reads (h1 := fun _ => rfl) (hA46 _ (Kd.reads_of_C HR0.out))); have HC564 := Aside0.mk hC46; clear hA46 hC46 hi046 hsz46; obtain ⟨i047, hi047, _, hsz47, _⟩ := info_parts info2; obtain ⟨hcut47, hA47, hC47⟩ := print_take_of (P := Try.prog) (Value.int .i64) 0 46 2 .i64 Try.underlying46 hi047 hsz47 A1 c1 l1 (ji8) (of_decide_eq_true (by first | (with_reducible assumption) | assumption)) (of_decide_eq_true (by first | (with_reducible assumption) | assumption)) HC1.out; have HR565 := Aside0.mk (Kd.C_of_reads (h1 := fun _ => rfl) (hA47 _ (Kd.reads_of_C HR1.out))); have HC565 := Aside0.mk hC47; clear hA47 hC47 hi047 hsz47) | (go_at_call 30; (try rw [show (ji5 : Int).toNat = (l0.take ((ji5) : Int).toNat).length from by rw [List.length_take]; have h_ := hji5_; split at h_ <;> omega]); (try rw [show (ji8 : Int).toNat = (l1.take ((ji8) : Int).toNat).length from by rw [List.length_take]; have h_ := hji8_; split at h_ <;> omega]); (with_reducible refine (heights_Stretch.calls _ _ (l0.take ((ji5) : Int).toNat) _ _ (l1.take ((ji8) : Int).toNat) a2 t566 t567 _ ?side1 ?side2 ?side3 ?side4 A11.out).mono ?_); (case side1 => repeat (first | exact (Kd.C_below HR564.out HB.out) | (with_reducible refine Kd.C_alloc ?_ _) | (with_reducible refine Kd.C_drewN ?_ _) | (with_reducible refine Kd.C_drew ?_))); (case side2 => exact HC564.out); (case side3 => repeat (first | exact (Kd.C_below HR565.out HB.out) | (with_reducible refine Kd.C_alloc ?_ _) | (with_reducible refine Kd.C_drewN ?_ _) | (with_reducible refine Kd.C_drew ?_))); (case side4 => exact HC565.out); rintro e w48 ⟨v568, rfl, ho0, hb⟩; have n0_ := Aside0.mk (Kd.R_lower ho0 (below_size (by repeat (first | (with_reducible first | exact HB.out | apply below_alloc | apply pw_below_drewN | apply below_drew1) | exact HB.out)))); have n1_ := Aside0.mk (below_step (by repeat (first | (with_reducible first | exact HB.out | apply below_alloc | apply pw_below_drewN | apply below_drew1) | exact HB.out)) hb); clear HB; have HO569 := n0_; have HB := n1_; clear n0_ n1_; (try clear hb); (try clear hb2); (try clear hk); (try clear hi); (try clear ho0); obtain ⟨Ao49, co49, eo49⟩ := Kd.R_slice HO569.out; subst eo49)))
       go_ret
       exact ⟨by first | rfl | (simp [errW_none, errW_some] <;> rfl) | (simp only [← hji5, ← hji8]; first | rfl | (simp [errW_none, errW_some] <;> rfl)) | (simp [*, errW_none, errW_some] <;> rfl), by repeat (first | (with_reducible first | exact HB.out | apply below_alloc | apply pw_below_drewN | apply below_drew1) | exact HB.out)⟩
      ·replace c44 := Bool.eq_false_iff.mpr c44
       subst c44
       have H1 : (some false) = some r := by rw [if_neg (show ¬ (false = true) by decide)] at H; exact H
       clear H
       have H := H1
       clear H1
       obtain rfl := Option.some.inj H
       go_enter Try.func11, Try.ntmps11
       go_wp2_with (first | (go_at_call 23; (with_reducible refine (purflinglaw16_shown.calls k  false _ A4.out).mono ?_); rintro e w50 ⟨rfl, hb⟩; have n0_ := Aside0.mk (below_step (by repeat (first | (with_reducible first | exact HB.out | apply below_alloc | apply pw_below_drewN | apply below_drew1) | exact HB.out)) hb); clear HB; have HB := n0_; clear n0_; (try clear hb); (try clear hb2); (try clear hk); (try clear hi); obtain ⟨i051, hi051, _, hsz51, _⟩ := info_parts info2; obtain ⟨hcut51, hA51, hC51⟩ := print_take_of (P := Try.prog) (Value.int .i64) 0 46 2 .i64 Try.underlying46 hi051 hsz51 A0 c0 l0 (ji5) (of_decide_eq_true (by first | (with_reducible assumption) | assumption)) (of_decide_eq_true (by first | (with_reducible assumption) | assumption)) HC0.out; have HR564 := Aside0.mk (Kd.C_of_reads (h1 := fun _ => rfl) (hA51 _ (Kd.reads_of_C HR0.out))); have HC564 := Aside0.mk hC51; clear hA51 hC51 hi051 hsz51; obtain ⟨i052, hi052, _, hsz52, _⟩ := info_parts info2; obtain ⟨hcut52, hA52, hC52⟩ := print_take_of (P := Try.prog) (Value.int .i64) 0 46 2 .i64 Try.underlying46 hi052 hsz52 A1 c1 l1 (ji8) (of_decide_eq_true (by first | (with_reducible assumption) | assumption)) (of_decide_eq_true (by first | (with_reducible assumption) | assumption)) HC1.out; have HR565 := Aside0.mk (Kd.C_of_reads (h1 := fun _ => rfl) (hA52 _ (Kd.reads_of_C HR1.out))); have HC565 := Aside0.mk hC52; clear hA52 hC52 hi052 hsz52) | (go_at_call 30; (try rw [show (ji5 : Int).toNat = (l0.take ((ji5) : Int).toNat).length from by rw [List.length_take]; have h_ := hji5_; split at h_ <;> omega]); (try rw [show (ji8 : Int).toNat = (l1.take ((ji8) : Int).toNat).length from by rw [List.length_take]; have h_ := hji8_; split at h_ <;> omega]); (with_reducible refine (heights_Stretch.calls _ _ (l0.take ((ji5) : Int).toNat) _ _ (l1.take ((ji8) : Int).toNat) a2 t566 t567 _ ?side1 ?side2 ?side3 ?side4 A11.out).mono ?_); (case side1 => repeat (first | exact (Kd.C_below HR564.out HB.out) | (with_reducible refine Kd.C_alloc ?_ _) | (with_reducible refine Kd.C_drewN ?_ _) | (with_reducible refine Kd.C_drew ?_))); (case side2 => exact HC564.out); (case side3 => repeat (first | exact (Kd.C_below HR565.out HB.out) | (with_reducible refine Kd.C_alloc ?_ _) | (with_reducible refine Kd.C_drewN ?_ _) | (with_reducible refine Kd.C_drew ?_))); (case side4 => exact HC565.out); rintro e w53 ⟨v568, rfl, ho0, hb⟩; have n0_ := Aside0.mk (Kd.R_lower ho0 (below_size (by repeat (first | (with_reducible first | exact HB.out | apply below_alloc | apply pw_below_drewN | apply below_drew1) | exact HB.out)))); have n1_ := Aside0.mk (below_step (by repeat (first | (with_reducible first | exact HB.out | apply below_alloc | apply pw_below_drewN | apply below_drew1) | exact HB.out)) hb); clear HB; have HO569 := n0_; have HB := n1_; clear n0_ n1_; (try clear hb); (try clear hb2); (try clear hk); (try clear hi); (try clear ho0)))
       repeat (go_quiet (first | (go_at_call 23; (with_reducible refine (purflinglaw16_shown.calls k  false _ A4.out).mono ?_); rintro e w50 ⟨rfl, hb⟩; have n0_ := Aside0.mk (below_step (by repeat (first | (with_reducible first | exact HB.out | apply below_alloc | apply pw_below_drewN | apply below_drew1) | exact HB.out)) hb); clear HB; have HB := n0_; clear n0_; (try clear hb); (try clear hb2); (try clear hk); (try clear hi); obtain ⟨i051, hi051, _, hsz51, _⟩ := info_parts info2; obtain ⟨hcut51, hA51, hC51⟩ := print_take_of (P := Try.prog) (Value.int .i64) 0 46 2 .i64 Try.underlying46 hi051 hsz51 A0 c0 l0 (ji5) (of_decide_eq_true (by first | (with_reducible assumption) | assumption)) (of_decide_eq_true (by first | (with_reducible assumption) | assumption)) HC0.out; have HR564 := Aside0.mk (Kd.C_of_reads (h1 := fun _ => rfl) (hA51 _ (Kd.reads_of_C HR0.out))); have HC564 := Aside0.mk hC51; clear hA51 hC51 hi051 hsz51; obtain ⟨i052, hi052, _, hsz52, _⟩ := info_parts info2; obtain ⟨hcut52, hA52, hC52⟩ := print_take_of (P := Try.prog) (Value.int .i64) 0 46 2 .i64 Try.underlying46 hi052 hsz52 A1 c1 l1 (ji8) (of_decide_eq_true (by first | (with_reducible assumption) | assumption)) (of_decide_eq_true (by first | (with_reducible assumption) | assumption)) HC1.out; have HR565 := Aside0.mk (Kd.C_of_reads (h1 := fun _ => rfl) (hA52 _ (Kd.reads_of_C HR1.out))); have HC565 := Aside0.mk hC52; clear hA52 hC52 hi052 hsz52) | (go_at_call 30; (try rw [show (ji5 : Int).toNat = (l0.take ((ji5) : Int).toNat).length from by rw [List.length_take]; have h_ := hji5_; split at h_ <;> omega]); (try rw [show (ji8 : Int).toNat = (l1.take ((ji8) : Int).toNat).length from by rw [List.length_take]; have h_ := hji8_; split at h_ <;> omega]); (with_reducible refine (heights_Stretch.calls _ _ (l0.take ((ji5) : Int).toNat) _ _ (l1.take ((ji8) : Int).toNat) a2 t566 t567 _ ?side1 ?side2 ?side3 ?side4 A11.out).mono ?_); (case side1 => repeat (first | exact (Kd.C_below HR564.out HB.out) | (with_reducible refine Kd.C_alloc ?_ _) | (with_reducible refine Kd.C_drewN ?_ _) | (with_reducible refine Kd.C_drew ?_))); (case side2 => exact HC564.out); (case side3 => repeat (first | exact (Kd.C_below HR565.out HB.out) | (with_reducible refine Kd.C_alloc ?_ _) | (with_reducible refine Kd.C_drewN ?_ _) | (with_reducible refine Kd.C_drew ?_))); (case side4 => exact HC565.out); rintro e w53 ⟨v568, rfl, ho0, hb⟩; have n0_ := Aside0.mk (Kd.R_lower ho0 (below_size (by repeat (first | (with_reducible first | exact HB.out | apply below_alloc | apply pw_below_drewN | apply below_drew1) | exact HB.out)))); have n1_ := Aside0.mk (below_step (by repeat (first | (with_reducible first | exact HB.out | apply below_alloc | apply pw_below_drewN | apply below_drew1) | exact HB.out)) hb); clear HB; have HO569 := n0_; have HB := n1_; clear n0_ n1_; (try clear hb); (try clear hb2); (try clear hk); (try clear hi); (try clear ho0))); try go_wp2_with (first | (go_at_call 23; (with_reducible refine (purflinglaw16_shown.calls k  false _ A4.out).mono ?_); rintro e w50 ⟨rfl, hb⟩; have n0_ := Aside0.mk (below_step (by repeat (first | (with_reducible first | exact HB.out | apply below_alloc | apply pw_below_drewN | apply below_drew1) | exact HB.out)) hb); clear HB; have HB := n0_; clear n0_; (try clear hb); (try clear hb2); (try clear hk); (try clear hi); obtain ⟨i051, hi051, _, hsz51, _⟩ := info_parts info2; obtain ⟨hcut51, hA51, hC51⟩ := print_take_of (P := Try.prog) (Value.int .i64) 0 46 2 .i64 Try.underlying46 hi051 hsz51 A0 c0 l0 (ji5) (of_decide_eq_true (by first | (with_reducible assumption) | assumption)) (of_decide_eq_true (by first | (with_reducible assumption) | assumption)) HC0.out; have HR564 := Aside0.mk (Kd.C_of_reads (h1 := fun _ => rfl) (hA51 _ (Kd.reads_of_C HR0.out))); have HC564 := Aside0.mk hC51; clear hA51 hC51 hi051 hsz51; obtain ⟨i052, hi052, _, hsz52, _⟩ := info_parts info2; obtain ⟨hcut52, hA52, hC52⟩ := print_take_of (P := Try.prog) (Value.int .i64) 0 46 2 .i64 Try.underlying46 hi052 hsz52 A1 c1 l1 (ji8) (of_decide_eq_true (by first | (with_reducible assumption) | assumption)) (of_decide_eq_true (by first | (with_reducible assumption) | assumption)) HC1.out; have HR565 := Aside0.mk (Kd.C_of_reads (h1 := fun _ => rfl) (hA52 _ (Kd.reads_of_C HR1.out))); have HC565 := Aside0.mk hC52; clear hA52 hC52 hi052 hsz52) | (go_at_call 30; (try rw [show (ji5 : Int).toNat = (l0.take ((ji5) : Int).toNat).length from by rw [List.length_take]; have h_ := hji5_; split at h_ <;> omega]); (try rw [show (ji8 : Int).toNat = (l1.take ((ji8) : Int).toNat).length from by rw [List.length_take]; have h_ := hji8_; split at h_ <;> omega]); (with_reducible refine (heights_Stretch.calls _ _ (l0.take ((ji5) : Int).toNat) _ _ (l1.take ((ji8) : Int).toNat) a2 t566 t567 _ ?side1 ?side2 ?side3 ?side4 A11.out).mono ?_); (case side1 => repeat (first | exact (Kd.C_below HR564.out HB.out) | (with_reducible refine Kd.C_alloc ?_ _) | (with_reducible refine Kd.C_drewN ?_ _) | (with_reducible refine Kd.C_drew ?_))); (case side2 => exact HC564.out); (case side3 => repeat (first | exact (Kd.C_below HR565.out HB.out) | (with_reducible refine Kd.C_alloc ?_ _) | (with_reducible refine Kd.C_drewN ?_ _) | (with_reducible refine Kd.C_drew ?_))); (case side4 => exact HC565.out); rintro e w53 ⟨v568, rfl, ho0, hb⟩; have n0_ := Aside0.mk (Kd.R_lower ho0 (below_size (by repeat (first | (with_reducible first | exact HB.out | apply below_alloc | apply pw_below_drewN | apply below_drew1) | exact HB.out)))); have n1_ := Aside0.mk (below_step (by repeat (first | (with_reducible first | exact HB.out | apply below_alloc | apply pw_below_drewN | apply below_drew1) | exact HB.out)) hb); clear HB; have HO569 := n0_; have HB := n1_; clear n0_ n1_; (try clear hb); (try clear hb2); (try clear hk); (try clear hi); (try clear ho0))))
       go_ret
       exact ⟨by first | rfl | (simp [errW_none, errW_some] <;> rfl) | (simp only [← hji5, ← hji8]; first | rfl | (simp [errW_none, errW_some] <;> rfl)) | (simp [*, errW_none, errW_some] <;> rfl), by repeat (first | (with_reducible first | exact HB.out | apply below_alloc | apply pw_below_drewN | apply below_drew1) | exact HB.out)⟩
    ·rw [if_neg c10] at H
     exact absurd H (by simp)
   ·rw [if_neg c9] at H
    exact absurd H (by simp)
  ·rw [if_neg c7] at H
   exact absurd H (by simp)
 ·rw [if_neg c6] at H
  exact absurd H (by simp)

/-- THE ONE PURE STATEMENT of purflinglaw16_HeightsAdd: yours. -/
def purflinglaw16_HeightsAdd.Pure : Prop := ∀ (l0 : List Int) (l1 : List Int) (a2 : Int), l0.length ≤ maxLen → l0.length * 8 ≤ 140737488351232 → (∀ x ∈ l0, (Lit.int .i64 x).wf = true) → l1.length ≤ maxLen → l1.length * 8 ≤ 140737488351232 → (∀ x ∈ l1, (Lit.int .i64 x).wf = true) → (Lit.int .i64 a2).wf = true → ∃ k, purflinglaw16_HeightsAdd.f k l0 l1 a2 = some true
theorem purflinglaw16_HeightsAdd.walk (P : purflinglaw16_HeightsAdd.Pure) (a0 : Option Addr) (len0 cap0 : Nat) (z0 : List Int) (a1 : Option Addr) (len1 cap1 : Nat) (z1 : List Int) (a2 : Int) (w : World) (w0 : (a0 = none ∧ len0 = 0 ∧ cap0 = 0 ∧ z0 = []) ∨ ∃ x, a0 = some x ∧ len0 ≤ cap0 ∧ cap0 ≤ maxLen ∧ z0.length = cap0 ∧ (∀ i, i < z0.length → w.cell? (x.add i) = some (.int .i64 (z0.getD i 0))) ∧ ∀ n ∈ z0, (Lit.int .i64 n).wf = true) (y0 : len0 * 8 ≤ 140737488351232) (w1 : (a1 = none ∧ len1 = 0 ∧ cap1 = 0 ∧ z1 = []) ∨ ∃ x, a1 = some x ∧ len1 ≤ cap1 ∧ cap1 ≤ maxLen ∧ z1.length = cap1 ∧ (∀ i, i < z1.length → w.cell? (x.add i) = some (.int .i64 (z1.getD i 0))) ∧ ∀ n ∈ z1, (Lit.int .i64 n).wf = true) (y1 : len1 * 8 ≤ 140737488351232) (w2 : (Lit.int .i64 a2).wf = true) :
  Calls Try.prog 11 #[.slice a0 len0 cap0, .slice a1 len1 cap1, .int .i64 a2] w fun e w' => e = .returned (.bool true) ∧ Below w.heap.size w w' := by
 obtain ⟨l0, rfl, hr0, hm0, hw0, hc0⟩ := ReadsInt.ofRowC w0
 obtain ⟨l1, rfl, hr1, hm1, hw1, hc1⟩ := ReadsInt.ofRowC w1
 obtain ⟨k, h⟩ := P l0 l1 a2 hm0 y0 hw0 hm1 y1 hw1 w2
 refine (purflinglaw16_HeightsAdd.calls k _ _ l0 _ _ l1 a2 true w (Kd.C_of_reads (d := (0 : Int)) (h1 := fun _ => rfl) hr0) hc0 (Kd.C_of_reads (d := (0 : Int)) (h1 := fun _ => rfl) hr1) hc1 h).mono ?_
 rintro e w' ⟨rfl, hd⟩
 exact ⟨rfl, hd⟩

end Go.Proofs.Ytacigmhhegaieaa.PA
