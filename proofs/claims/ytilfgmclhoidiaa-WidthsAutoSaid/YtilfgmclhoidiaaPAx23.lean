-- MADE by wip/tools/xprint.py of this repo: the kit's print.py, turned by this session, and texts by hand
import Derived.Test.YtilfgmclhoidiaaPAx0
import Derived.Test.YtilfgmclhoidiaaPAx19
import Derived.Test.YtilfgmclhoidiaaPAx20
import Derived.Test.YtilfgmclhoidiaaPAx21
import Derived.Test.YtilfgmclhoidiaaPAx22
namespace Go.Proofs.Ytilfgmclhoidiaa.PA
open Go.RowKit Go.Proofs.YtilfgmclhoidiaaW.PrintWords Go.Proofs.YtilfgmclhoidiaaW.PrintLast Go.Proofs.YtilfgmclhoidiaaW.PrintMore
attribute [local go_sem] max2_int min2_int max_two min_two max_three min_three max_four min_four   -- for this text's walks alone
set_option linter.unusedVariables false
set_option linter.unusedSimpArgs false

/-! ### purflingref15_Auto: function 18 -/
mutual
def purflingref15_Auto.j0 : Nat → List (S35) → Int → Int → Bool → Option (List Int × Int)
  | 0, _, _, _, _ => none
  | k + 1, x0, x1, x7, x49 => if x49 = true then (some (([] : List Int), 130)) else (purflingref15_Auto.l0 k x0 x1 x7 ([] : List Int) ([] : List Int) 0 0)
def purflingref15_Auto.l0 : Nat → List (S35) → Int → Int → List Int → List Int → Int → Int → Option (List Int × Int)
  | 0, _, _, _, _, _, _, _ => none
  | k + 1, x0, x1, x7, x10, x11, x12, x13 => if x13 < (x0.length : Int) then (if 0 ≤ x13 then ((purflingref15_wish.f k ((rd_T35 x0 x13).f0) ((rd_T35 x0 x13).f1) ((rd_T35 x0 x13).f2) ((rd_T35 x0 x13).f3) x1).bind fun t346 => (if x10.length < 17592186044416 then (if x11.length < 17592186044416 then ((purflingref01_Sum.f k x12 t346).bind fun t354 => (purflingref15_Auto.l0 k x0 x1 x7 (x10 ++ [t346]) (x11 ++ [mn (wrap64 (t346 - ((rd_T35 x0 x13).f0))) 1125899906842623]) t354 (wrap64 (x13 + 1)))) else (none)) else (none))) else (none)) else (if x12 > x1 then ((purflingref01_Share.f k (wrap64 (x1 - x7)) x11).bind fun bt355 => (purflingref15_Auto.l1 k x0 x10 bt355.1 0)) else ((purflingref15_member.f k x0).bind fun t362 => ((purflingref15_free.f k x0).bind fun t365 => (purflingref15_Auto.l2 k x0 x1 x10 x12 ([] : List Int) t362 t365 0))))
def purflingref15_Auto.l1 : Nat → List (S35) → List Int → List Int → Int → Option (List Int × Int)
  | 0, _, _, _, _ => none
  | k + 1, x0, x10, x15, x17 => if x17 < (x0.length : Int) then (if 0 ≤ x17 then (if x17 < (x15.length : Int) then (if x17 < (x10.length : Int) then (purflingref15_Auto.l1 k x0 (x10.set (x17 : Int).toNat (wrap64 (((rd_T35 x0 x17).f0) + (rd x15 x17)))) x15 (wrap64 (x17 + 1))) else (none)) else (none)) else (none)) else (some (x10, 0))
def purflingref15_Auto.l2 : Nat → List (S35) → Int → List Int → Int → List Int → List Bool → List Int → Int → Option (List Int × Int)
  | 0, _, _, _, _, _, _, _, _ => none
  | k + 1, x0, x1, x10, x12, x18, x19, x20, x21 => if x21 < (x0.length : Int) then (if 0 ≤ x21 then (if x21 < (x19.length : Int) then (if rdOf false x19 x21 = true then (if x21 < (x20.length : Int) then (if x18.length < 17592186044416 then (purflingref15_Auto.l2 k x0 x1 x10 x12 (x18 ++ [rd x20 x21]) x19 x20 (wrap64 (x21 + 1))) else (none)) else (none)) else (purflingref15_Auto.l2 k x0 x1 x10 x12 x18 x19 x20 (wrap64 (x21 + 1)))) else (none)) else (none)) else ((purflingref01_Share.f k (wrap64 (x1 - x12)) x18).bind fun bt373 => (purflingref15_Auto.l3 k x0 x10 x19 bt373.1 0 0))
def purflingref15_Auto.l3 : Nat → List (S35) → List Int → List Bool → List Int → Int → Int → Option (List Int × Int)
  | 0, _, _, _, _, _, _ => none
  | k + 1, x0, x10, x19, x22, x24, x25 => if x25 < (x0.length : Int) then (if 0 ≤ x25 then (if x25 < (x19.length : Int) then (if rdOf false x19 x25 = true then (if x25 < (x10.length : Int) then (if 0 ≤ x24 then (if x24 < (x22.length : Int) then (purflingref15_Auto.l3 k x0 (x10.set (x25 : Int).toNat (wrap64 ((rd x10 x25) + (rd x22 x24)))) x19 x22 (wrap64 (x24 + 1)) (wrap64 (x25 + 1))) else (none)) else (none)) else (none)) else (purflingref15_Auto.l3 k x0 x10 x19 x22 x24 (wrap64 (x25 + 1)))) else (none)) else (none)) else (some (x10, 0))
end
def purflingref15_Auto.f (k : Nat) (l0 : List (S35)) (a1 : Int) : Option (List Int × Int) := (purflingref13_RightBands.f k l0).bind fun t341 => ((purflingref13_Sums.f k l0).bind fun bt342 => (if t341 = true then (if (l0.length : Int) = 0 then (purflingref15_Auto.j0 k l0 a1 bt342.1 true) else (if a1 < bt342.1 then (purflingref15_Auto.j0 k l0 a1 bt342.1 true) else (purflingref15_Auto.j0 k l0 a1 bt342.1 (decide (a1 > 576460752303423488))))) else (purflingref15_Auto.j0 k l0 a1 bt342.1 true)))
theorem purflingref15_Auto.mono_l : ∀ k, (∀ y0 y1 y2 y3, LeO (purflingref15_Auto.j0 k y0 y1 y2 y3) (purflingref15_Auto.j0 (k + 1) y0 y1 y2 y3)) ∧ (∀ y0 y1 y2 y3 y4 y5 y6, LeO (purflingref15_Auto.l0 k y0 y1 y2 y3 y4 y5 y6) (purflingref15_Auto.l0 (k + 1) y0 y1 y2 y3 y4 y5 y6)) ∧ (∀ y0 y1 y2 y3, LeO (purflingref15_Auto.l1 k y0 y1 y2 y3) (purflingref15_Auto.l1 (k + 1) y0 y1 y2 y3)) ∧ (∀ y0 y1 y2 y3 y4 y5 y6 y7, LeO (purflingref15_Auto.l2 k y0 y1 y2 y3 y4 y5 y6 y7) (purflingref15_Auto.l2 (k + 1) y0 y1 y2 y3 y4 y5 y6 y7)) ∧ (∀ y0 y1 y2 y3 y4 y5, LeO (purflingref15_Auto.l3 k y0 y1 y2 y3 y4 y5) (purflingref15_Auto.l3 (k + 1) y0 y1 y2 y3 y4 y5))
  | 0 => ⟨fun _ _ _ _ r h => by simp [purflingref15_Auto.j0] at h, fun _ _ _ _ _ _ _ r h => by simp [purflingref15_Auto.l0] at h, fun _ _ _ _ r h => by simp [purflingref15_Auto.l1] at h, fun _ _ _ _ _ _ _ _ r h => by simp [purflingref15_Auto.l2] at h, fun _ _ _ _ _ _ r h => by simp [purflingref15_Auto.l3] at h⟩
  | k + 1 => by
    obtain ⟨ih0, ih1, ih2, ih3, ih4⟩ := purflingref15_Auto.mono_l k
    refine ⟨?_, ?_, ?_, ?_, ?_⟩
    · intro y0 y1 y2 y3
      unfold purflingref15_Auto.j0
      repeat' first
      | (with_reducible exact ih0 _ _ _ _)
      | (with_reducible exact ih1 _ _ _ _ _ _ _)
      | (with_reducible exact ih2 _ _ _ _)
      | (with_reducible exact ih3 _ _ _ _ _ _ _ _)
      | (with_reducible exact ih4 _ _ _ _ _ _)
      | (with_reducible exact purflingref01_Share.mono _ _ _)
      | (with_reducible exact purflingref01_Sum.mono _ _ _)
      | (with_reducible exact purflingref13_RightBands.mono _ _)
      | (with_reducible exact purflingref13_Sums.mono _ _)
      | (with_reducible exact purflingref15_free.mono _ _)
      | (with_reducible exact purflingref15_member.mono _ _)
      | (with_reducible exact purflingref15_wish.mono _ _ _ _ _ _)
      | (with_reducible exact LeO.refl _)
      | (with_reducible exact LeO.none _)
      | (with_reducible refine LeO.ite ?_ ?_)
      | (with_reducible refine LeO.bind ?_ (fun _ => ?_))
      | exact ih0 _ _ _ _
      | exact ih1 _ _ _ _ _ _ _
      | exact ih2 _ _ _ _
      | exact ih3 _ _ _ _ _ _ _ _
      | exact ih4 _ _ _ _ _ _
      | exact purflingref01_Share.mono _ _ _
      | exact purflingref01_Sum.mono _ _ _
      | exact purflingref13_RightBands.mono _ _
      | exact purflingref13_Sums.mono _ _
      | exact purflingref15_free.mono _ _
      | exact purflingref15_member.mono _ _
      | exact purflingref15_wish.mono _ _ _ _ _ _
      | exact LeO.none _
      | refine LeO.ite ?_ ?_
      | refine LeO.bind ?_ (fun _ => ?_)
    · intro y0 y1 y2 y3 y4 y5 y6
      unfold purflingref15_Auto.l0
      repeat' first
      | (with_reducible exact ih0 _ _ _ _)
      | (with_reducible exact ih1 _ _ _ _ _ _ _)
      | (with_reducible exact ih2 _ _ _ _)
      | (with_reducible exact ih3 _ _ _ _ _ _ _ _)
      | (with_reducible exact ih4 _ _ _ _ _ _)
      | (with_reducible exact purflingref01_Share.mono _ _ _)
      | (with_reducible exact purflingref01_Sum.mono _ _ _)
      | (with_reducible exact purflingref13_RightBands.mono _ _)
      | (with_reducible exact purflingref13_Sums.mono _ _)
      | (with_reducible exact purflingref15_free.mono _ _)
      | (with_reducible exact purflingref15_member.mono _ _)
      | (with_reducible exact purflingref15_wish.mono _ _ _ _ _ _)
      | (with_reducible exact LeO.refl _)
      | (with_reducible exact LeO.none _)
      | (with_reducible refine LeO.ite ?_ ?_)
      | (with_reducible refine LeO.bind ?_ (fun _ => ?_))
      | exact ih0 _ _ _ _
      | exact ih1 _ _ _ _ _ _ _
      | exact ih2 _ _ _ _
      | exact ih3 _ _ _ _ _ _ _ _
      | exact ih4 _ _ _ _ _ _
      | exact purflingref01_Share.mono _ _ _
      | exact purflingref01_Sum.mono _ _ _
      | exact purflingref13_RightBands.mono _ _
      | exact purflingref13_Sums.mono _ _
      | exact purflingref15_free.mono _ _
      | exact purflingref15_member.mono _ _
      | exact purflingref15_wish.mono _ _ _ _ _ _
      | exact LeO.none _
      | refine LeO.ite ?_ ?_
      | refine LeO.bind ?_ (fun _ => ?_)
    · intro y0 y1 y2 y3
      unfold purflingref15_Auto.l1
      repeat' first
      | (with_reducible exact ih0 _ _ _ _)
      | (with_reducible exact ih1 _ _ _ _ _ _ _)
      | (with_reducible exact ih2 _ _ _ _)
      | (with_reducible exact ih3 _ _ _ _ _ _ _ _)
      | (with_reducible exact ih4 _ _ _ _ _ _)
      | (with_reducible exact purflingref01_Share.mono _ _ _)
      | (with_reducible exact purflingref01_Sum.mono _ _ _)
      | (with_reducible exact purflingref13_RightBands.mono _ _)
      | (with_reducible exact purflingref13_Sums.mono _ _)
      | (with_reducible exact purflingref15_free.mono _ _)
      | (with_reducible exact purflingref15_member.mono _ _)
      | (with_reducible exact purflingref15_wish.mono _ _ _ _ _ _)
      | (with_reducible exact LeO.refl _)
      | (with_reducible exact LeO.none _)
      | (with_reducible refine LeO.ite ?_ ?_)
      | (with_reducible refine LeO.bind ?_ (fun _ => ?_))
      | exact ih0 _ _ _ _
      | exact ih1 _ _ _ _ _ _ _
      | exact ih2 _ _ _ _
      | exact ih3 _ _ _ _ _ _ _ _
      | exact ih4 _ _ _ _ _ _
      | exact purflingref01_Share.mono _ _ _
      | exact purflingref01_Sum.mono _ _ _
      | exact purflingref13_RightBands.mono _ _
      | exact purflingref13_Sums.mono _ _
      | exact purflingref15_free.mono _ _
      | exact purflingref15_member.mono _ _
      | exact purflingref15_wish.mono _ _ _ _ _ _
      | exact LeO.none _
      | refine LeO.ite ?_ ?_
      | refine LeO.bind ?_ (fun _ => ?_)
    · intro y0 y1 y2 y3 y4 y5 y6 y7
      unfold purflingref15_Auto.l2
      repeat' first
      | (with_reducible exact ih0 _ _ _ _)
      | (with_reducible exact ih1 _ _ _ _ _ _ _)
      | (with_reducible exact ih2 _ _ _ _)
      | (with_reducible exact ih3 _ _ _ _ _ _ _ _)
      | (with_reducible exact ih4 _ _ _ _ _ _)
      | (with_reducible exact purflingref01_Share.mono _ _ _)
      | (with_reducible exact purflingref01_Sum.mono _ _ _)
      | (with_reducible exact purflingref13_RightBands.mono _ _)
      | (with_reducible exact purflingref13_Sums.mono _ _)
      | (with_reducible exact purflingref15_free.mono _ _)
      | (with_reducible exact purflingref15_member.mono _ _)
      | (with_reducible exact purflingref15_wish.mono _ _ _ _ _ _)
      | (with_reducible exact LeO.refl _)
      | (with_reducible exact LeO.none _)
      | (with_reducible refine LeO.ite ?_ ?_)
      | (with_reducible refine LeO.bind ?_ (fun _ => ?_))
      | exact ih0 _ _ _ _
      | exact ih1 _ _ _ _ _ _ _
      | exact ih2 _ _ _ _
      | exact ih3 _ _ _ _ _ _ _ _
      | exact ih4 _ _ _ _ _ _
      | exact purflingref01_Share.mono _ _ _
      | exact purflingref01_Sum.mono _ _ _
      | exact purflingref13_RightBands.mono _ _
      | exact purflingref13_Sums.mono _ _
      | exact purflingref15_free.mono _ _
      | exact purflingref15_member.mono _ _
      | exact purflingref15_wish.mono _ _ _ _ _ _
      | exact LeO.none _
      | refine LeO.ite ?_ ?_
      | refine LeO.bind ?_ (fun _ => ?_)
    · intro y0 y1 y2 y3 y4 y5
      unfold purflingref15_Auto.l3
      repeat' first
      | (with_reducible exact ih0 _ _ _ _)
      | (with_reducible exact ih1 _ _ _ _ _ _ _)
      | (with_reducible exact ih2 _ _ _ _)
      | (with_reducible exact ih3 _ _ _ _ _ _ _ _)
      | (with_reducible exact ih4 _ _ _ _ _ _)
      | (with_reducible exact purflingref01_Share.mono _ _ _)
      | (with_reducible exact purflingref01_Sum.mono _ _ _)
      | (with_reducible exact purflingref13_RightBands.mono _ _)
      | (with_reducible exact purflingref13_Sums.mono _ _)
      | (with_reducible exact purflingref15_free.mono _ _)
      | (with_reducible exact purflingref15_member.mono _ _)
      | (with_reducible exact purflingref15_wish.mono _ _ _ _ _ _)
      | (with_reducible exact LeO.refl _)
      | (with_reducible exact LeO.none _)
      | (with_reducible refine LeO.ite ?_ ?_)
      | (with_reducible refine LeO.bind ?_ (fun _ => ?_))
      | exact ih0 _ _ _ _
      | exact ih1 _ _ _ _ _ _ _
      | exact ih2 _ _ _ _
      | exact ih3 _ _ _ _ _ _ _ _
      | exact ih4 _ _ _ _ _ _
      | exact purflingref01_Share.mono _ _ _
      | exact purflingref01_Sum.mono _ _ _
      | exact purflingref13_RightBands.mono _ _
      | exact purflingref13_Sums.mono _ _
      | exact purflingref15_free.mono _ _
      | exact purflingref15_member.mono _ _
      | exact purflingref15_wish.mono _ _ _ _ _ _
      | exact LeO.none _
      | refine LeO.ite ?_ ?_
      | refine LeO.bind ?_ (fun _ => ?_)
theorem purflingref15_Auto.mono : ∀ a0 a1 k, LeO (purflingref15_Auto.f k a0 a1) (purflingref15_Auto.f (k + 1) a0 a1) := by
  intro a0 a1 k
  obtain ⟨ih0, ih1, ih2, ih3, ih4⟩ := purflingref15_Auto.mono_l k
  unfold purflingref15_Auto.f
  repeat' first
      | (with_reducible exact ih0 _ _ _ _)
      | (with_reducible exact ih1 _ _ _ _ _ _ _)
      | (with_reducible exact ih2 _ _ _ _)
      | (with_reducible exact ih3 _ _ _ _ _ _ _ _)
      | (with_reducible exact ih4 _ _ _ _ _ _)
      | (with_reducible exact purflingref01_Share.mono _ _ _)
      | (with_reducible exact purflingref01_Sum.mono _ _ _)
      | (with_reducible exact purflingref13_RightBands.mono _ _)
      | (with_reducible exact purflingref13_Sums.mono _ _)
      | (with_reducible exact purflingref15_free.mono _ _)
      | (with_reducible exact purflingref15_member.mono _ _)
      | (with_reducible exact purflingref15_wish.mono _ _ _ _ _ _)
      | (with_reducible exact LeO.refl _)
      | (with_reducible exact LeO.none _)
      | (with_reducible refine LeO.ite ?_ ?_)
      | (with_reducible refine LeO.bind ?_ (fun _ => ?_))
      | exact ih0 _ _ _ _
      | exact ih1 _ _ _ _ _ _ _
      | exact ih2 _ _ _ _
      | exact ih3 _ _ _ _ _ _ _ _
      | exact ih4 _ _ _ _ _ _
      | exact purflingref01_Share.mono _ _ _
      | exact purflingref01_Sum.mono _ _ _
      | exact purflingref13_RightBands.mono _ _
      | exact purflingref13_Sums.mono _ _
      | exact purflingref15_free.mono _ _
      | exact purflingref15_member.mono _ _
      | exact purflingref15_wish.mono _ _ _ _ _ _
      | exact LeO.none _
      | refine LeO.ite ?_ ?_
      | refine LeO.bind ?_ (fun _ => ?_)
def purflingref15_Auto.T19 : Bool × List (List Nat × List Nat) := (true, [([], []), ([], []), ([], []), ([], []), ([2, 3], [2, 3]), ([4], [4]), ([5], [5]), ([], []), ([], []), ([7, 8], [7, 8]), ([9], [9]), ([6, 10], [6, 10]), ([0, 1, 0, 1, 2, 3, 4, 5, 6, 7, 8, 9, 10, 11], [0, 1]), ([12, 11, 0, 1, 2, 3, 4, 5, 6, 7, 8, 9, 10, 11], [11, 12])])
def purflingref15_Auto.B19 : List Nat := [0, 0, 0, 0, 12, 28, 60, 0, 0, 384, 896, 2044, 4095, 8191]
theorem purflingref15_Auto.tab19 : rtab .any (opsOf Try.f18 19) = purflingref15_Auto.T19 := by kernel_rfl
theorem purflingref15_Auto.bits19 : waitsOk purflingref15_Auto.T19.2 purflingref15_Auto.B19 = true := by kernel_rfl
def purflingref15_Auto.T35 : Bool × List (List Nat × List Nat) := (true, [([], []), ([], []), ([], []), ([], []), ([2, 3], [2, 3]), ([4], [4]), ([], []), ([], []), ([6, 7], [6, 7]), ([8], [8]), ([5, 9], [5, 9]), ([0, 1, 0, 1, 2, 3, 4, 5, 6, 7, 8, 9, 10], [0, 1]), ([11, 10, 0, 1, 2, 3, 4, 5, 6, 7, 8, 9, 10], [10, 11])])
def purflingref15_Auto.B35 : List Nat := [0, 0, 0, 0, 12, 28, 0, 0, 192, 448, 1020, 2047, 4095]
theorem purflingref15_Auto.tab35 : rtab .any (opsOf Try.f18 35) = purflingref15_Auto.T35 := by kernel_rfl
theorem purflingref15_Auto.bits35 : waitsOk purflingref15_Auto.T35.2 purflingref15_Auto.B35 = true := by kernel_rfl
set_option maxHeartbeats 8000000 in
set_option maxRecDepth 100000 in
theorem purflingref15_Auto.calls (k : Nat) (A0 : Option Addr) (c0 : Nat) (l0 : List (S35)) (a1 : Int) (r1 : List Int) (r2 : Int) (w : World) (hr0 : Kd.C k35 w A0 l0.length l0) (hc0 : l0.length ≤ c0) (h : purflingref15_Auto.f k l0 a1 = some (r1, r2)) :
    Calls Try.prog 18 #[.slice A0 l0.length c0, .int .i64 a1] w fun e w' => ∃ v0_ : Value, e = .returned (.tuple #[v0_, .int .i64 r2]) ∧ Kd.R (Kd.int .i64) 2 w' w.heap.size (fun _ => True) v0_ r1 ∧ Below w.heap.size w w' := by
  have hu35 := Try.underlying35
  have HR0 := Aside0.mk hr0
  have HC0 := Aside0.mk hc0
  clear hr0 hc0
  have HB := Aside0.mk (Below.refl w.heap.size w)
  have H : ((purflingref13_RightBands.f k l0).bind fun t341 => ((purflingref13_Sums.f k l0).bind fun bt342 => (if t341 = true then (if (l0.length : Int) = 0 then (purflingref15_Auto.j0 k l0 a1 bt342.1 true) else (if a1 < bt342.1 then (purflingref15_Auto.j0 k l0 a1 bt342.1 true) else (purflingref15_Auto.j0 k l0 a1 bt342.1 (decide (a1 > 576460752303423488))))) else (purflingref15_Auto.j0 k l0 a1 bt342.1 true)))) = some (r1, r2) := h
  clear h
  replace H := Option.bind_eq_some_iff.mp H
  obtain ⟨t341, A30, H⟩ := H
  replace H : ((purflingref13_Sums.f k l0).bind fun bt342 => (if t341 = true then (if (l0.length : Int) = 0 then (purflingref15_Auto.j0 k l0 a1 bt342.1 true) else (if a1 < bt342.1 then (purflingref15_Auto.j0 k l0 a1 bt342.1 true) else (purflingref15_Auto.j0 k l0 a1 bt342.1 (decide (a1 > 576460752303423488))))) else (purflingref15_Auto.j0 k l0 a1 bt342.1 true))) = some (r1, r2) := H
  have A3 := Aside0.mk A30
  clear A30
  replace H := Option.bind_eq_some_iff.mp H
  obtain ⟨⟨t342, t343, t344⟩, A40, H⟩ := H
  replace H : (if t341 = true then (if (l0.length : Int) = 0 then (purflingref15_Auto.j0 k l0 a1 t342 true) else (if a1 < t342 then (purflingref15_Auto.j0 k l0 a1 t342 true) else (purflingref15_Auto.j0 k l0 a1 t342 (decide (a1 > 576460752303423488))))) else (purflingref15_Auto.j0 k l0 a1 t342 true)) = some (r1, r2) := H
  have A4 := Aside0.mk A40
  clear A40
  have HC5 := Aside0.mk H
  clear H
  go_enter Try.func18, Try.ntmps18
  go_upto_region 3 with (first | ((with_reducible refine gate_callee (f := 40) rfl ?_); refine goesL_ (some 27) rfl rfl Try.func40 (by kernel_rfl) rfl #[.slice A0 l0.length c0] rfl (by (try simp only [List.map_toArray, List.map_cons, List.map_nil]); first | done | rfl | (simp only [List.length_drop, List.length_take]; rfl)) ?_; (with_reducible refine (purflingref13_RightBands.calls k _ _ l0 t341 _ ?side1 ?side2 A3.out).mono ?_); (case side1 => repeat (first | exact HR0.out | (with_reducible refine Kd.C_alloc ?_ _) | (with_reducible refine Kd.C_drewN ?_ _) | (with_reducible refine Kd.C_drew ?_))); (case side2 => exact HC0.out); rintro e w6 ⟨rfl, hb⟩; refine ⟨_, rfl, ?_⟩; have n0_ := Aside0.mk (below_step (by repeat (first | (with_reducible first | exact HB.out | apply below_alloc | apply pw_below_drewN | apply below_drew1) | exact HB.out)) hb); clear HB; have HB := n0_; clear n0_; (try clear hb); (try clear hb2); (try clear hk); (try clear hi)) | ((with_reducible refine gate_callee (f := 41) rfl ?_); refine goesL_ (some 30) rfl rfl Try.func41 (by kernel_rfl) rfl #[.slice A0 l0.length c0] rfl (by (try simp only [List.map_toArray, List.map_cons, List.map_nil]); first | done | rfl | (simp only [List.length_drop, List.length_take]; rfl)) ?_; (with_reducible refine (purflingref13_Sums.calls k _ _ l0 t342 t343 t344 _ ?side1 ?side2 A4.out).mono ?_); (case side1 => repeat (first | exact (Kd.C_below HR0.out HB.out) | (with_reducible refine Kd.C_alloc ?_ _) | (with_reducible refine Kd.C_drewN ?_ _) | (with_reducible refine Kd.C_drew ?_))); (case side2 => exact HC0.out); rintro e w' ⟨rfl, ⟨nd, rfl⟩⟩; refine ⟨_, rfl, ?_⟩))
  (try simp only [Act.put, List.setIfInBounds_toArray, List.set_cons_zero, List.set_cons_succ])
  go_cut [49] (fun v49 wc => ∃ (kq : Nat) (x49_4 : Bool), v49 = .bool x49_4 ∧ Aside0 (purflingref15_Auto.j0 kq l0 a1 t342 x49_4 = some (r1, r2)) ∧ Aside0 (kq ≤ k) ∧ Aside0 (Below w.heap.size w wc))
  case first =>
    have H := HC5.out
    clear HC5
    by_cases c7 : t341 = true
    · subst c7
      have H1 : (if (l0.length : Int) = 0 then (purflingref15_Auto.j0 k l0 a1 t342 true) else (if a1 < t342 then (purflingref15_Auto.j0 k l0 a1 t342 true) else (purflingref15_Auto.j0 k l0 a1 t342 (decide (a1 > 576460752303423488))))) = some (r1, r2) := by rw [if_pos rfl] at H; exact H
      clear H
      have H := H1
      clear H1
      by_cases c8 : (l0.length : Int) = 0
      · rw [if_pos c8] at H
        have c8b0 : ((l0.length : Int) == 0) = true := beq_iff_eq.mpr c8
        have c8b1 : ((l0.length : Int) != 0) = false := bne_eq_false_iff_eq.mpr c8
        clear c8
        (first | rw [c8b0] | (simp only [i64_w, i32_w]; rw [c8b0]) | skip)
        have H' := Aside0.mk H
        clear H
        go_wp2
        go_meet
        case rel => exact ⟨_, (true), (by first | rfl | (simp; done) | (simp [*]; done)), H', ⟨by first | omega | exact Nat.le_refl _⟩, ⟨by repeat (first | (with_reducible first | exact HB.out | apply below_alloc | apply pw_below_drewN | apply below_drew1) | exact HB.out)⟩⟩
      · rw [if_neg c8] at H
        have c8b0 : ((l0.length : Int) == 0) = false := beq_eq_false_iff_ne.mpr c8
        have c8b1 : ((l0.length : Int) != 0) = true := bne_iff_ne.mpr c8
        have c8b2 : ¬ (l0 = []) := fun h_ => c8 (by rw [h_]; rfl)
        (first | rw [c8b0] | (simp only [i64_w, i32_w]; rw [c8b0]) | skip)
        by_cases c9 : a1 < t342
        · rw [if_pos c9] at H
          have c9b0 : decide (a1 < t342) = true := decide_eq_true c9
          clear c9
          have H' := Aside0.mk H
          clear H
          go_wp2
          go_meet
          case rel => exact ⟨_, (true), (by first | rfl | (simp; done) | (simp [*]; done)), H', ⟨by first | omega | exact Nat.le_refl _⟩, ⟨by repeat (first | (with_reducible first | exact HB.out | apply below_alloc | apply pw_below_drewN | apply below_drew1) | exact HB.out)⟩⟩
        · rw [if_neg c9] at H
          have c9b0 : decide (a1 < t342) = false := decide_eq_false c9
          clear c9
          have H' := Aside0.mk H
          clear H
          go_wp2
          go_meet
          case rel => exact ⟨_, (decide (a1 > 576460752303423488)), (by first | rfl | (simp; done) | (simp [*]; done)), H', ⟨by first | omega | exact Nat.le_refl _⟩, ⟨by repeat (first | (with_reducible first | exact HB.out | apply below_alloc | apply pw_below_drewN | apply below_drew1) | exact HB.out)⟩⟩
    · replace c7 := Bool.eq_false_iff.mpr c7
      subst c7
      have H1 : (purflingref15_Auto.j0 k l0 a1 t342 true) = some (r1, r2) := by rw [if_neg (show ¬ (false = true) by decide)] at H; exact H
      clear H
      have H := H1
      clear H1
      have H' := Aside0.mk H
      clear H
      go_wp2
      go_meet
      case rel => exact ⟨_, (true), (by first | rfl | (simp; done) | (simp [*]; done)), H', ⟨by first | omega | exact Nat.le_refl _⟩, ⟨by repeat (first | (with_reducible first | exact HB.out | apply below_alloc | apply pw_below_drewN | apply below_drew1) | exact HB.out)⟩⟩
  case rest =>
    clear HC5
    try clear c1
    try clear p2
    try clear c4
    try clear c7
    try clear c8
    try clear c8b0
    try clear c8b1
    try clear c8b2
    try clear c9
    try clear c9b0
    obtain ⟨kq, x49_4, rfl, HA, HJ4, HB⟩ := hcut
    cases kq with
    | zero => exact absurd HA.out (by simp [purflingref15_Auto.j0])
    | succ kj4 =>
      have H := HA.out
      clear HA
      simp only [purflingref15_Auto.j0] at H
      by_cases c10 : x49_4 = true
      · subst c10
        have H1 : (some (([] : List Int), 130)) = some (r1, r2) := by rw [if_pos rfl] at H; exact H
        clear H
        have H := H1
        clear H1
        simp only [Option.some.injEq, Prod.mk.injEq] at H
        obtain ⟨rfl, rfl⟩ := H
        go_wp2
        go_ret2
        exact ⟨_, by first | rfl | (simp [errW_none, errW_some] <;> rfl) | (simp [*, errW_none, errW_some] <;> rfl), by first | exact Kd.R_nil _ _ _ _ _ | exact Kd.N_nil _ _ _ _ _ | exact Kd.V_nil _ _ _ _ _ | exact Kd.Q_nil _ _ _ _ _ | exact Kd.S_nil _ _ _ _ _, by repeat (first | (with_reducible first | exact HB.out | apply below_alloc | apply pw_below_drewN | apply below_drew1) | exact HB.out)⟩
      · replace c10 := Bool.eq_false_iff.mpr c10
        subst c10
        have H1 : (purflingref15_Auto.l0 kj4 l0 a1 t342 ([] : List Int) ([] : List Int) 0 0) = some (r1, r2) := by rw [if_neg (show ¬ (false = true) by decide)] at H; exact H
        clear H
        have H := H1
        clear H1
        have H' := Aside0.mk H
        clear H
        go_wp2
        go_loopg [10, 11, 12, 13] kj4 (fun kq v10 v11 v12 v13 w' => ∃ (x10_2 : List Int) (x11_2 : List Int) (x12_2 : Int) (x13_2 : Int), v12 = .int .i64 x12_2 ∧ v13 = .int .i64 x13_2 ∧ Aside0 (purflingref15_Auto.l0 kq l0 a1 t342 x10_2 x11_2 x12_2 x13_2 = some (r1, r2)) ∧ Aside0 (kq ≤ kj4) ∧ Aside0 (Kd.R (Kd.int .i64) 2 w' w.heap.size (fun k_ => some k_ ≠ (v11 : Value).ownBlock) v10 x10_2) ∧ Aside0 (Kd.R (Kd.int .i64) 2 w' w.heap.size (fun k_ => some k_ ≠ (v10 : Value).ownBlock) v11 x11_2) ∧ Aside0 (Below w.heap.size w w'))
        case atStart => exact ⟨(([] : List Int)), (([] : List Int)), (0), (0), (by first | rfl | (simp; done) | (simp [*]; done)), (by first | rfl | (simp; done) | (simp [*]; done)), H', ⟨Nat.le_refl _⟩, ⟨by first | exact Kd.R_nil _ _ _ _ _ | exact Kd.N_nil _ _ _ _ _ | exact Kd.V_nil _ _ _ _ _ | exact Kd.Q_nil _ _ _ _ _ | exact Kd.S_nil _ _ _ _ _⟩, ⟨by first | exact Kd.R_nil _ _ _ _ _ | exact Kd.N_nil _ _ _ _ _ | exact Kd.V_nil _ _ _ _ _ | exact Kd.Q_nil _ _ _ _ _ | exact Kd.S_nil _ _ _ _ _⟩, ⟨by repeat (first | (with_reducible first | exact HB.out | apply below_alloc | apply pw_below_drewN | apply below_drew1) | exact HB.out)⟩⟩
        case round =>
          clear H'
          try clear c1
          try clear p2
          try clear c4
          try clear c7
          try clear c8
          try clear c8b0
          try clear c8b1
          try clear c8b2
          try clear c9
          try clear c9b0
          try clear c10
          try clear p2
          obtain ⟨x10_2, x11_2, x12_2, x13_2, rfl, rfl, HA, HK2, HO_10, HO_11, HB⟩ := hrel
          cases gk with
          | zero => exact absurd HA.out (by simp [purflingref15_Auto.l0])
          | succ k2 =>
            have H := HA.out
            clear HA
            simp only [purflingref15_Auto.l0] at H
            by_cases c11 : x13_2 < (l0.length : Int)
            · rw [if_pos c11] at H
              have c11b0 : decide (x13_2 < (l0.length : Int)) = true := decide_eq_true c11
              clear c11
              by_cases c12 : 0 ≤ x13_2
              · rw [if_pos c12] at H
                have c12b0 : decide (0 ≤ x13_2) = true := decide_eq_true c12
                clear c12
                replace H := Option.bind_eq_some_iff.mp H
                obtain ⟨t346, A130, H⟩ := H
                replace H : (if x10_2.length < 17592186044416 then (if x11_2.length < 17592186044416 then ((purflingref01_Sum.f k2 x12_2 t346).bind fun t354 => (purflingref15_Auto.l0 k2 l0 a1 t342 (x10_2 ++ [t346]) (x11_2 ++ [mn (wrap64 (t346 - ((rd_T35 l0 x13_2).f0))) 1125899906842623]) t354 (wrap64 (x13_2 + 1)))) else (none)) else (none)) = some (r1, r2) := H
                have A13 := Aside0.mk A130
                clear A130
                by_cases c14 : x10_2.length < 17592186044416
                · rw [if_pos c14] at H
                  have LMc14 := Aside0.mk c14
                  clear c14
                  obtain ⟨y347, hy347⟩ : ∃ y_ : List Int, y_ = (x10_2 ++ [t346]) := ⟨_, rfl⟩
                  replace H : (if x11_2.length < 17592186044416 then ((purflingref01_Sum.f k2 x12_2 t346).bind fun t354 => (purflingref15_Auto.l0 k2 l0 a1 t342 y347 (x11_2 ++ [mn (wrap64 (t346 - ((rd_T35 l0 x13_2).f0))) 1125899906842623]) t354 (wrap64 (x13_2 + 1)))) else (none)) = some (r1, r2) := by first | (rw [hy347]; with_reducible exact H) | (have H2_ := (Option.bind_some _ _).symm.trans H; rw [hy347]; with_reducible exact H2_) | (have H2_ := (Option.bind_some _ _).symm.trans H; with_reducible exact H2_) | with_reducible exact H | (rw [hy347]; exact H) | exact H
                  have Ny347 := Aside0.mk hy347
                  clear hy347
                  obtain ⟨ji15, hji15⟩ : ∃ j_ : Int, (mn (wrap64 (t346 - ((rd_T35 l0 x13_2).f0))) 1125899906842623) = j_ := ⟨_, rfl⟩
                  replace H : (if x11_2.length < 17592186044416 then ((purflingref01_Sum.f k2 x12_2 t346).bind fun t354 => (purflingref15_Auto.l0 k2 l0 a1 t342 y347 (x11_2 ++ [ji15]) t354 (wrap64 (x13_2 + 1)))) else (none)) = some (r1, r2) := by first | (rw [hji15] at H; exact H) | (simp only [hji15] at H ⊢; exact H)
                  (try rw [hji15] at A13)
                  have hji15_ : (if 1125899906842623 < (wrap64 (t346 - ((rd_T35 l0 x13_2).f0))) then 1125899906842623 else (wrap64 (t346 - ((rd_T35 l0 x13_2).f0)))) = ji15 := hji15
                  by_cases c16 : x11_2.length < 17592186044416
                  · rw [if_pos c16] at H
                    have LMc16 := Aside0.mk c16
                    clear c16
                    obtain ⟨y351, hy351⟩ : ∃ y_ : List Int, y_ = (x11_2 ++ [ji15]) := ⟨_, rfl⟩
                    replace H : ((purflingref01_Sum.f k2 x12_2 t346).bind fun t354 => (purflingref15_Auto.l0 k2 l0 a1 t342 y347 y351 t354 (wrap64 (x13_2 + 1)))) = some (r1, r2) := by first | (rw [hy351]; with_reducible exact H) | (have H2_ := (Option.bind_some _ _).symm.trans H; rw [hy351]; with_reducible exact H2_) | (have H2_ := (Option.bind_some _ _).symm.trans H; with_reducible exact H2_) | with_reducible exact H | (rw [hy351]; exact H) | exact H
                    have Ny351 := Aside0.mk hy351
                    clear hy351
                    replace H := Option.bind_eq_some_iff.mp H
                    obtain ⟨t354, A170, H⟩ := H
                    replace H : (purflingref15_Auto.l0 k2 l0 a1 t342 y347 y351 t354 (wrap64 (x13_2 + 1))) = some (r1, r2) := H
                    have A17 := Aside0.mk A170
                    clear A170
                    have H' := Aside0.mk H
                    clear H
                    have p345 : 0 ≤ (x13_2 : Int) := of_decide_eq_true (by first | (with_reducible assumption) | assumption)
                    have q345 : x13_2 < (l0.length : Int) := of_decide_eq_true (by first | (with_reducible assumption) | assumption)
                    obtain ⟨ad345, e345, hx345_0, hx345_1, hx345_2, hx345_3⟩ := at_T35 HR0.out x13_2 p345 q345
                    cases e345
                    replace hx345_0 := (HB.out.cell (World.block_lt_of_cell? w _ hx345_0)).trans hx345_0
                    replace hx345_1 := (HB.out.cell (World.block_lt_of_cell? w _ hx345_1)).trans hx345_1
                    replace hx345_2 := (HB.out.cell (World.block_lt_of_cell? w _ hx345_2)).trans hx345_2
                    replace hx345_3 := (HB.out.cell (World.block_lt_of_cell? w _ hx345_3)).trans hx345_3
                    replace p345 := eq_true p345
                    replace q345 := eq_true q345
                    go_wp2_with (first | ((with_reducible refine gate_callee (f := 42) rfl ?_); refine goesL_ (some 61) rfl rfl Try.func42 (by kernel_rfl) rfl #[.agg #[.int .i64 ((rd_T35 l0 x13_2).f0), .int .i64 ((rd_T35 l0 x13_2).f1), .int .i64 ((rd_T35 l0 x13_2).f2), .int .i64 ((rd_T35 l0 x13_2).f3)], .int .i64 a1] rfl (by (try simp only [List.map_toArray, List.map_cons, List.map_nil]); first | done | rfl | (simp only [List.length_drop, List.length_take]; rfl)) ?_; (with_reducible refine (purflingref15_wish.calls k2 ((rd_T35 l0 x13_2).f0) ((rd_T35 l0 x13_2).f1) ((rd_T35 l0 x13_2).f2) ((rd_T35 l0 x13_2).f3) a1 t346 _ A13.out).mono ?_); rintro e w18 ⟨rfl, hb⟩; refine ⟨_, rfl, ?_⟩; have n0_ := Aside0.mk (Kd.R_below (by (with_reducible repeat (first | apply Kd.R_alloc | apply Kd.R_drewN | apply Kd.R_drew)); exact HO_10.out) hb); have n1_ := Aside0.mk (Kd.R_below (by (with_reducible repeat (first | apply Kd.R_alloc | apply Kd.R_drewN | apply Kd.R_drew)); exact HO_11.out) hb); have n2_ := Aside0.mk (below_step (by repeat (first | (with_reducible first | exact HB.out | apply below_alloc | apply pw_below_drewN | apply below_drew1) | exact HB.out)) hb); clear HO_10; clear HO_11; clear HB; have HO_10 := n0_; have HO_11 := n1_; have HB := n2_; clear n0_ n1_ n2_; (try clear hb); (try clear hb2); (try clear hk); (try clear hi)) | ((with_reducible refine gate_builtin (b := .append) (xs := #[.tmp 62, .tmp 64]) rfl ?_); (try (refine gate_guard (by rfl) ?_; dsimp only)); at_builtin; refine Kd.R_append (Kd.int .i64) (w0 := w) w.heap.size rfl (.tmp 62) (.tmp 64) 24 2 (.int .i64 0) 8 rfl Try.underlying24 info2 rfl (by decide) (by omega) u10 x10_2 t346 [.int .i64 t346] (fun k_ => some k_ ≠ (u11 : Value).ownBlock) (fun _ => False) rfl rfl ?aP (fun _ hk => hk.elim) ?aF ?aO ?aB ?aS ?aL ?_; (case aP => exact rfl); (case aB => exact (by repeat (first | (with_reducible first | exact HB.out | apply below_alloc | apply pw_below_drewN | apply below_drew1) | exact HB.out))); (case aF => exact (fun k_ hk => Kd.fresh' (Kd.R_lt (by (with_reducible repeat (first | apply Kd.R_alloc | apply Kd.R_drewN | apply Kd.R_drew)); exact HO_11.out)) k_ hk)); (case aO => exact (by (with_reducible repeat (first | apply Kd.R_alloc | apply Kd.R_drewN | apply Kd.R_drew)); exact HO_10.out)); (case aS => exact (below_size (by repeat (first | (with_reducible first | exact HB.out | apply below_alloc | apply pw_below_drewN | apply below_drew1) | exact HB.out)))); (case aL => have := LMc14.out; omega); intro v348 w19 ho hb hg hat; rw [← Ny347.out] at ho; have n0_ := Aside0.mk (Kd.R_after (ok := (fun _ => True)) (by (with_reducible repeat (first | apply Kd.R_alloc | apply Kd.R_drewN | apply Kd.R_drew)); exact Kd.R_mono HO_11.out (fun _ hk => ⟨trivial, hk⟩)) hg hat); have n1_ := Aside0.mk (hb); have n2_ := Aside0.mk (ho); clear HO_11; clear HB; clear HO_10; have HO_11 := n0_; have HB := n1_; have HO349 := n2_; clear n0_ n1_ n2_; clear ho hb hg hat; have p350 : 0 ≤ (x13_2 : Int) := of_decide_eq_true (by first | (with_reducible assumption) | assumption); have q350 : x13_2 < (l0.length : Int) := of_decide_eq_true (by first | (with_reducible assumption) | assumption); obtain ⟨ad350, e350, hx350_0, hx350_1, hx350_2, hx350_3⟩ := at_T35 HR0.out x13_2 p350 q350; obtain rfl : ad345 = ad350 := (by injection e350); replace hx350_0 := (HB.out.cell (World.block_lt_of_cell? w _ hx350_0)).trans hx350_0; replace hx350_1 := (HB.out.cell (World.block_lt_of_cell? w _ hx350_1)).trans hx350_1; replace hx350_2 := (HB.out.cell (World.block_lt_of_cell? w _ hx350_2)).trans hx350_2; replace hx350_3 := (HB.out.cell (World.block_lt_of_cell? w _ hx350_3)).trans hx350_3; replace p350 := eq_true p350; replace q350 := eq_true q350) | ((with_reducible refine gate_builtin (b := .append) (xs := #[.tmp 66, .tmp 75]) rfl ?_); (try (refine gate_guard (by rfl) ?_; dsimp only)); at_builtin; refine Kd.R_append (Kd.int .i64) (w0 := w) w.heap.size rfl (.tmp 66) (.tmp 75) 24 2 (.int .i64 0) 8 rfl Try.underlying24 info2 rfl (by decide) (by omega) u11 x11_2 ji15 [.int .i64 ji15] (fun k_ => some k_ ≠ (v348 : Value).ownBlock) (fun _ => False) rfl rfl ?aP (fun _ hk => hk.elim) ?aF ?aO ?aB ?aS ?aL ?_; (case aP => exact rfl); (case aB => exact (by repeat (first | (with_reducible first | exact HB.out | apply below_alloc | apply pw_below_drewN | apply below_drew1) | exact HB.out))); (case aF => exact (fun k_ hk => Kd.fresh' (Kd.R_lt (by (with_reducible repeat (first | apply Kd.R_alloc | apply Kd.R_drewN | apply Kd.R_drew)); exact HO349.out)) k_ hk)); (case aO => exact (by (with_reducible repeat (first | apply Kd.R_alloc | apply Kd.R_drewN | apply Kd.R_drew)); exact Kd.R_mono HO_11.out (fun _ hk => hk.2))); (case aS => exact (below_size (by repeat (first | (with_reducible first | exact HB.out | apply below_alloc | apply pw_below_drewN | apply below_drew1) | exact HB.out)))); (case aL => have := LMc16.out; omega); intro v352 w20 ho hb hg hat; rw [← Ny351.out] at ho; have n0_ := Aside0.mk (Kd.R_after (ok := (fun _ => True)) (by (with_reducible repeat (first | apply Kd.R_alloc | apply Kd.R_drewN | apply Kd.R_drew)); exact Kd.R_mono HO349.out (fun _ hk => ⟨trivial, hk⟩)) hg hat); have n1_ := Aside0.mk (hb); have n2_ := Aside0.mk (ho); clear HO349; clear HB; clear HO_11; have HO349 := n0_; have HB := n1_; have HO353 := n2_; clear n0_ n1_ n2_; clear ho hb hg hat) | ((with_reducible refine gate_callee (f := 43) rfl ?_); refine goesL_ (some 79) rfl rfl Try.func43 (by kernel_rfl) rfl #[.int .i64 x12_2, .int .i64 t346] rfl (by (try simp only [List.map_toArray, List.map_cons, List.map_nil]); first | done | rfl | (simp only [List.length_drop, List.length_take]; rfl)) ?_; (with_reducible refine (purflingref01_Sum.calls k2 x12_2 t346 t354 _ A17.out).mono ?_); rintro e w' ⟨rfl, ⟨nd, rfl⟩⟩; refine ⟨_, rfl, ?_⟩))
                    go_roundg k2
                    case measure => have := HJ4.out; have := HK2.out; omega
                    case rel => exact ⟨(y347), (y351), (t354), (wrap64 (x13_2 + 1)), (by first | rfl | (simp; done) | (simp [*]; done)), (by first | rfl | (simp; done) | (simp [*]; done)), H', ⟨by have := HJ4.out; have := HK2.out; omega⟩, ⟨by (with_reducible repeat (first | apply Kd.R_alloc | apply Kd.R_drewN | apply Kd.R_drew)); exact Kd.R_mono HO349.out (fun _ hk => hk.2)⟩, ⟨by (with_reducible repeat (first | apply Kd.R_alloc | apply Kd.R_drewN | apply Kd.R_drew)); exact HO353.out⟩, ⟨by repeat (first | (with_reducible first | exact HB.out | apply below_alloc | apply pw_below_drewN | apply below_drew1) | exact HB.out)⟩⟩
                  · rw [if_neg c16] at H
                    exact absurd H (by simp)
                · rw [if_neg c14] at H
                  exact absurd H (by simp)
              · rw [if_neg c12] at H
                exact absurd H (by simp)
            · rw [if_neg c11] at H
              have c11b0 : decide (x13_2 < (l0.length : Int)) = false := decide_eq_false c11
              clear c11
              by_cases c21 : x12_2 > a1
              · rw [if_pos c21] at H
                have c21b0 : decide (a1 < x12_2) = true := decide_eq_true c21
                clear c21
                replace H := Option.bind_eq_some_iff.mp H
                obtain ⟨⟨t355, t356⟩, A220, H⟩ := H
                replace H : (purflingref15_Auto.l1 k2 l0 x10_2 t355 0) = some (r1, r2) := H
                have A22 := Aside0.mk A220
                clear A220
                have H' := Aside0.mk H
                clear H
                obtain ⟨Ao23, co23, eo23⟩ := Kd.R_slice HO_11.out
                subst eo23
                go_wp2_with (first | ((with_reducible refine gate_callee (f := 44) rfl ?_); refine goesL_ (some 88) rfl rfl Try.func44 (by kernel_rfl) rfl #[.int .i64 (wrap64 (a1 - t342)), .slice Ao23 x11_2.length co23] rfl (by (try simp only [List.map_toArray, List.map_cons, List.map_nil]); first | done | rfl | (simp only [List.length_drop, List.length_take]; rfl)) ?_; (with_reducible refine (purflingref01_Share.calls k2 (wrap64 (a1 - t342)) _ _ x11_2 t355 t356 _ ?side1 ?side2 A22.out).mono ?_); (case side1 => repeat (first | exact (Kd.R_reads' HO_11.out).2.2 | (with_reducible refine Kd.C_alloc ?_ _) | (with_reducible refine Kd.C_drewN ?_ _) | (with_reducible refine Kd.C_drew ?_))); (case side2 => exact (Kd.R_reads' HO_11.out).2.1); rintro e w24 ⟨v357, rfl, ho0, hb⟩; refine ⟨_, rfl, ?_⟩; have n0_ := Aside0.mk (Kd.R_elder' (by (with_reducible repeat (first | apply Kd.R_alloc | apply Kd.R_drewN | apply Kd.R_drew)); exact HO_10.out) (Kd.R_base ho0) hb); have n1_ := Aside0.mk (Kd.R_elder' (by (with_reducible repeat (first | apply Kd.R_alloc | apply Kd.R_drewN | apply Kd.R_drew)); exact HO_11.out) (Kd.R_base ho0) hb); have n2_ := Aside0.mk (Kd.R_lower (Kd.R_new' (Kd.R_new' ho0 (Kd.R_lt (by (with_reducible repeat (first | apply Kd.R_alloc | apply Kd.R_drewN | apply Kd.R_drew)); exact HO_10.out))) (Kd.R_lt (by (with_reducible repeat (first | apply Kd.R_alloc | apply Kd.R_drewN | apply Kd.R_drew)); exact HO_11.out))) (below_size (by repeat (first | (with_reducible first | exact HB.out | apply below_alloc | apply pw_below_drewN | apply below_drew1) | exact HB.out)))); have n3_ := Aside0.mk (below_step (by repeat (first | (with_reducible first | exact HB.out | apply below_alloc | apply pw_below_drewN | apply below_drew1) | exact HB.out)) hb); clear HO_10; clear HO_11; clear HB; have HO_10 := n0_; have HO_11 := n1_; have HO358 := n2_; have HB := n3_; clear n0_ n1_ n2_ n3_; (try clear hb); (try clear hb2); (try clear hk); (try clear hi); (try clear ho0)))
                go_loopg [17] k2 (fun kq v17 w' => ∃ (x10_3 : List Int) (x17_3 : Int), v17 = .int .i64 x17_3 ∧ Aside0 (purflingref15_Auto.l1 kq l0 x10_3 t355 x17_3 = some (r1, r2)) ∧ Aside0 (kq ≤ k2) ∧ Aside0 (Kd.R (Kd.int .i64) 2 w' w.heap.size (fun k_ => some k_ ≠ (v357 : Value).ownBlock) u10 x10_3) ∧ Aside0 (Kd.R (Kd.int .i64) 2 w' w.heap.size (fun k_ => some k_ ≠ (u10 : Value).ownBlock) v357 t355) ∧ Aside0 (Below w.heap.size w w'))
                case atStart => exact ⟨(x10_2), (0), (by first | rfl | (simp; done) | (simp [*]; done)), H', ⟨Nat.le_refl _⟩, ⟨by (with_reducible repeat (first | apply Kd.R_alloc | apply Kd.R_drewN | apply Kd.R_drew)); exact Kd.R_mono HO_10.out (fun _ hk => hk.2)⟩, ⟨by (with_reducible repeat (first | apply Kd.R_alloc | apply Kd.R_drewN | apply Kd.R_drew)); exact Kd.R_mono HO358.out (fun _ hk => hk.1.2)⟩, ⟨by repeat (first | (with_reducible first | exact HB.out | apply below_alloc | apply pw_below_drewN | apply below_drew1) | exact HB.out)⟩⟩
                case round =>
                  clear H'
                  try clear c1
                  try clear c2
                  try clear p2
                  try clear p3
                  try clear q3
                  try clear hx3
                  try clear c4
                  try clear p6
                  try clear c7
                  try clear c8
                  try clear c8b0
                  try clear c8b1
                  try clear c8b2
                  try clear c9
                  try clear c9b0
                  try clear c10
                  try clear c11
                  try clear c11b0
                  try clear c12
                  try clear c12b0
                  try clear c14
                  try clear c16
                  try clear c18
                  try clear c21
                  try clear c21b0
                  try clear hx345_0
                  try clear hx345_1
                  try clear hx345_2
                  try clear hx345_3
                  try clear hx350_0
                  try clear hx350_1
                  try clear hx350_2
                  try clear hx350_3
                  try clear p2
                  try clear p345
                  try clear p350
                  try clear q345
                  try clear q350
                  obtain ⟨x10_3, x17_3, rfl, HA, HK3, HO_10, HO_15, HB⟩ := hrel
                  cases gk with
                  | zero => exact absurd HA.out (by simp [purflingref15_Auto.l1])
                  | succ k3 =>
                    have H := HA.out
                    clear HA
                    simp only [purflingref15_Auto.l1] at H
                    by_cases c25 : x17_3 < (l0.length : Int)
                    · rw [if_pos c25] at H
                      have c25b0 : decide (x17_3 < (l0.length : Int)) = true := decide_eq_true c25
                      clear c25
                      by_cases c26 : 0 ≤ x17_3
                      · rw [if_pos c26] at H
                        have c26b0 : decide (0 ≤ x17_3) = true := decide_eq_true c26
                        clear c26
                        by_cases c27 : x17_3 < (t355.length : Int)
                        · rw [if_pos c27] at H
                          have c27b0 : decide (x17_3 < (t355.length : Int)) = true := decide_eq_true c27
                          clear c27
                          by_cases c28 : x17_3 < (x10_3.length : Int)
                          · rw [if_pos c28] at H
                            have c28b0 : decide (x17_3 < (x10_3.length : Int)) = true := decide_eq_true c28
                            clear c28
                            obtain ⟨y361, hy361⟩ : ∃ y_ : List Int, y_ = (x10_3.set (x17_3 : Int).toNat (wrap64 (((rd_T35 l0 x17_3).f0) + (rd t355 x17_3)))) := ⟨_, rfl⟩
                            replace H : (purflingref15_Auto.l1 k3 l0 y361 t355 (wrap64 (x17_3 + 1))) = some (r1, r2) := by first | (rw [hy361]; with_reducible exact H) | (have H2_ := (Option.bind_some _ _).symm.trans H; rw [hy361]; with_reducible exact H2_) | (have H2_ := (Option.bind_some _ _).symm.trans H; with_reducible exact H2_) | with_reducible exact H | (rw [hy361]; exact H) | exact H
                            have Ny361 := Aside0.mk hy361
                            clear hy361
                            have H' := Aside0.mk H
                            clear H
                            try go_wp2
                            have n0_ := Aside0.mk (Kd.R_drew HO_10.out)
                            have n1_ := Aside0.mk (Kd.R_drew HO_15.out)
                            have n2_ := Aside0.mk (below_drew1 HB.out)
                            clear HO_10
                            clear HO_15
                            clear HB
                            have HO_10 := n0_
                            have HO_15 := n1_
                            have HB := n2_
                            clear n0_ n1_ n2_
                            have p359 : 0 ≤ (x17_3 : Int) := of_decide_eq_true (by first | (with_reducible assumption) | assumption)
                            have q359 : x17_3 < (l0.length : Int) := of_decide_eq_true (by first | (with_reducible assumption) | assumption)
                            obtain ⟨ad359, e359, hx359_0, hx359_1, hx359_2, hx359_3⟩ := at_T35 HR0.out x17_3 p359 q359
                            have hw359_3 := hx359_3
                            have hw359_2 := hx359_2
                            have hw359_1 := hx359_1
                            have hw359_0 := hx359_0
                            cases e359
                            replace hx359_0 := (HB.out.cell (World.block_lt_of_cell? w _ hx359_0)).trans hx359_0
                            replace hx359_1 := (HB.out.cell (World.block_lt_of_cell? w _ hx359_1)).trans hx359_1
                            replace hx359_2 := (HB.out.cell (World.block_lt_of_cell? w _ hx359_2)).trans hx359_2
                            replace hx359_3 := (HB.out.cell (World.block_lt_of_cell? w _ hx359_3)).trans hx359_3
                            replace p359 := eq_true p359
                            replace q359 := eq_true q359
                            obtain ⟨Ao31, co31, eo31⟩ := Kd.R_slice HO_15.out
                            (first | subst eo31 | (injection eo31 with f1_ f2_ f3_; have f4_ := f1_.symm; have f5_ := f3_.symm; clear f1_ f2_ f3_; subst f4_; subst f5_))
                            have p360 : 0 ≤ (x17_3 : Int) := of_decide_eq_true (by first | (with_reducible assumption) | assumption)
                            have q360 : x17_3 < (t355.length : Int) := of_decide_eq_true (by first | (with_reducible assumption) | assumption)
                            obtain ⟨ad360, e360, hx360_0⟩ := Kd.at_int (Kd.R_reads' HO_15.out).2.2 x17_3 p360 q360
                            cases e360
                            replace p360 := eq_true p360
                            replace q360 := eq_true q360
                            have p29 : 0 ≤ (x17_3 : Int) := of_decide_eq_true (by first | (with_reducible assumption) | assumption)
                            have q29 : (x17_3 : Int) < ((x10_3.length : Int) : Int) := of_decide_eq_true (by first | (with_reducible assumption) | assumption)
                            obtain ⟨go29, co29, eo29, gb29, gl29, cl29, HG29⟩ := Kd.R_form HO_10.out (by omega)
                            (first | cases eo29 | (injection eo29 with ea_ en_ ec_; (first | subst ea_ | (injection ea_ with ea_; subst ea_)); subst ec_; clear en_))
                            have GB29 := Aside0.mk gb29
                            have GG29 := Aside0.mk HG29
                            clear gb29 gl29 HG29
                            obtain ⟨hx29_0, hf29_0⟩ := Kd.R_celln 0 HO_10.out (x17_3 : Int) p29 q29
                            replace p29 := eq_true p29
                            replace q29 := eq_true q29
                            have HP32 := Kd.R_putn HO_10.out (x17_3 : Int) (wrap64 (((rd_T35 l0 x17_3).f0) + (rd t355 x17_3)))
                            rw [← Ny361.out] at HP32
                            have HQ32 := Aside0.mk HP32
                            clear HP32
                            refine start_ (n := 14) (S := fun w' => w'.cell? (ad359.add ((x17_3).toNat * 4)) = some (.int .i64 ((rd_T35 l0 x17_3).f0)) ∧ w'.cell? ⟨(ad359.add ((x17_3).toNat * 4)).block, (ad359.add ((x17_3).toNat * 4)).off + 1, none⟩ = some (.int .i64 ((rd_T35 l0 x17_3).f1)) ∧ w'.cell? ⟨(ad359.add ((x17_3).toNat * 4)).block, (ad359.add ((x17_3).toNat * 4)).off + 2, none⟩ = some (.int .i64 ((rd_T35 l0 x17_3).f2)) ∧ w'.cell? ⟨(ad359.add ((x17_3).toNat * 4)).block, (ad359.add ((x17_3).toNat * 4)).off + 3, none⟩ = some (.int .i64 ((rd_T35 l0 x17_3).f3)) ∧ w'.cell? (ad360.add (x17_3).toNat) = some (.int .i64 (rd t355 x17_3))) (ds := [13]) #[false, false, false, false, false, false, false, false, false, false, false, false, false, false] (by kernel_rfl) rfl rfl ⟨((HB.out.cell (World.block_lt_of_cell? w _ hw359_0)).trans hw359_0), ((HB.out.cell (World.block_lt_of_cell? w _ hw359_1)).trans hw359_1), ((HB.out.cell (World.block_lt_of_cell? w _ hw359_2)).trans hw359_2), ((HB.out.cell (World.block_lt_of_cell? w _ hw359_3)).trans hw359_3), hx360_0⟩ (fun hHeld => ?_); refine with_tabW purflingref15_Auto.tab19 purflingref15_Auto.bits19 (fun HT_ HW_ => ?_)
                            generalize wr.drew = w30 at HO_10 HO_15 HB GG29 HQ32 hf29_0 hx29_0 hx359_0 hx359_1 hx359_2 hx359_3 hx360_0 hHeld ⊢
                            refine pure_ (i := 0) (N := some 97) (v := ?_) (a' := ?_) #[true, false, false, false, false, false, false, false, false, false, false, false, false, false] rfl rfl (any_of HT_.out (by kernel_rfl)) (fun _ _ _ h => h) (Or.inl ⟨by rfl, ?_⟩) ?_ ?_
                            rotate_left
                            · intro w'
                              go_simp
                              with_reducible rfl
                            rotate_left
                            · simp only [Act.put, List.setIfInBounds_toArray, List.set_cons_zero, List.set_cons_succ, i64_w, i32_w]
                              rfl
                            refine pure_ (i := 1) (N := some 98) (v := ?_) (a' := ?_) #[true, true, false, false, false, false, false, false, false, false, false, false, false, false] rfl rfl (any_of HT_.out (by kernel_rfl)) (fun _ _ _ h => h) (Or.inl ⟨by rfl, ?_⟩) ?_ ?_
                            rotate_left
                            · intro w'
                              go_simp
                              with_reducible rfl
                            rotate_left
                            · simp only [Act.put, List.setIfInBounds_toArray, List.set_cons_zero, List.set_cons_succ, i64_w, i32_w]
                              rfl
                            refine pure_ (i := 2) (N := some 99) (v := ?_) (a' := ?_) #[true, true, true, false, false, false, false, false, false, false, false, false, false, false] rfl rfl (any_of HT_.out (by kernel_rfl)) (fun _ _ _ h => h) (Or.inl ⟨by rfl, ?_⟩) ?_ ?_
                            rotate_left
                            · intro w'
                              go_simp
                              with_reducible rfl
                            rotate_left
                            · simp only [Act.put, List.setIfInBounds_toArray, List.set_cons_zero, List.set_cons_succ, i64_w, i32_w]
                              rfl
                            refine pure_ (i := 3) (N := some 100) (v := ?_) (a' := ?_) #[true, true, true, true, false, false, false, false, false, false, false, false, false, false] rfl rfl (any_of HT_.out (by kernel_rfl)) (fun _ _ _ h => h) (Or.inl ⟨by rfl, ?_⟩) ?_ ?_
                            rotate_left
                            · intro w'
                              go_simp
                              with_reducible rfl
                            rotate_left
                            · simp only [Act.put, List.setIfInBounds_toArray, List.set_cons_zero, List.set_cons_succ, i64_w, i32_w]
                              rfl
                            refine pure_ (i := 4) (N := some 101) (v := ?_) (a' := ?_) #[true, true, true, true, true, false, false, false, false, false, false, false, false, false] rfl rfl (any_of HT_.out (by kernel_rfl)) (fun _ _ _ h => h) (Or.inl ⟨by rfl, ?_⟩) ?_ ?_
                            rotate_left
                            · intro w'
                              go_simp
                              with_reducible rfl
                            rotate_left
                            · simp only [Act.put, List.setIfInBounds_toArray, List.set_cons_zero, List.set_cons_succ, i64_w, i32_w]
                              rfl
                            refine pure_ (i := 5) (N := some 102) (v := ?_) (a' := ?_) #[true, true, true, true, true, true, false, false, false, false, false, false, false, false] rfl rfl (any_of HT_.out (by kernel_rfl)) (fun _ _ _ h => h) (Or.inl ⟨by rfl, ?_⟩) ?_ ?_
                            rotate_left
                            · intro w'
                              go_simp
                              with_reducible rfl
                            rotate_left
                            · simp only [Act.put, List.setIfInBounds_toArray, List.set_cons_zero, List.set_cons_succ, i64_w, i32_w]
                              rfl
                            refine pure_ (i := 7) (N := some 104) (v := ?_) (a' := ?_) #[true, true, true, true, true, true, false, true, false, false, false, false, false, false] rfl rfl (any_of HT_.out (by kernel_rfl)) (fun _ _ _ h => h) (Or.inl ⟨by rfl, ?_⟩) ?_ ?_
                            rotate_left
                            · intro w'
                              go_simp
                              with_reducible rfl
                            rotate_left
                            · simp only [Act.put, List.setIfInBounds_toArray, List.set_cons_zero, List.set_cons_succ, i64_w, i32_w]
                              rfl
                            refine pure_ (i := 8) (N := some 105) (v := ?_) (a' := ?_) #[true, true, true, true, true, true, false, true, true, false, false, false, false, false] rfl rfl (any_of HT_.out (by kernel_rfl)) (fun _ _ _ h => h) (Or.inl ⟨by rfl, ?_⟩) ?_ ?_
                            rotate_left
                            · intro w'
                              go_simp
                              with_reducible rfl
                            rotate_left
                            · simp only [Act.put, List.setIfInBounds_toArray, List.set_cons_zero, List.set_cons_succ, i64_w, i32_w]
                              rfl
                            refine pure_ (i := 9) (N := some 106) (v := ?_) (a' := ?_) #[true, true, true, true, true, true, false, true, true, true, false, false, false, false] rfl rfl (any_of HT_.out (by kernel_rfl)) (fun _ _ _ h => h) (Or.inl ⟨by rfl, ?_⟩) ?_ ?_
                            rotate_left
                            · intro w'
                              go_simp
                              with_reducible rfl
                            rotate_left
                            · simp only [Act.put, List.setIfInBounds_toArray, List.set_cons_zero, List.set_cons_succ, i64_w, i32_w]
                              rfl
                            refine take_ (i := 6) (N := some 103) (v := ?_) (a' := ?_) #[true, true, true, true, true, true, true, true, true, true, false, false, false, false] rfl rfl (take_ofW HT_.out HW_.out (by kernel_rfl)) (fun _ _ _ h => h) (Or.inl ⟨by rfl, ?_⟩) hHeld ?_ ?_
                            rotate_left
                            · rintro w' ⟨s0, s1, s2, s3, s4⟩
                              go_simp
                              with_reducible rfl
                            rotate_left
                            · simp only [Act.put, List.setIfInBounds_toArray, List.set_cons_zero, List.set_cons_succ, i64_w, i32_w]
                              rfl
                            refine take_ (i := 10) (N := some 107) (v := ?_) (a' := ?_) #[true, true, true, true, true, true, true, true, true, true, true, false, false, false] rfl rfl (take_ofW HT_.out HW_.out (by kernel_rfl)) (fun _ _ _ h => h) (Or.inl ⟨by rfl, ?_⟩) hHeld ?_ ?_
                            rotate_left
                            · rintro w' ⟨s0, s1, s2, s3, s4⟩
                              go_simp
                              with_reducible rfl
                            rotate_left
                            · simp only [Act.put, List.setIfInBounds_toArray, List.set_cons_zero, List.set_cons_succ, i64_w, i32_w]
                              rfl
                            refine pure_ (i := 11) (N := some 108) (v := ?_) (a' := ?_) #[true, true, true, true, true, true, true, true, true, true, true, true, false, false] rfl rfl (any_of HT_.out (by kernel_rfl)) (fun _ _ _ h => h) (Or.inl ⟨by rfl, ?_⟩) ?_ ?_
                            rotate_left
                            · intro w'
                              go_simp
                              with_reducible rfl
                            rotate_left
                            · simp only [Act.put, List.setIfInBounds_toArray, List.set_cons_zero, List.set_cons_succ, i64_w, i32_w]
                              rfl
                            refine pure_ (i := 12) (N := some 109) (v := ?_) (a' := ?_) #[true, true, true, true, true, true, true, true, true, true, true, true, true, false] rfl rfl (any_of HT_.out (by kernel_rfl)) (fun _ _ _ h => h) (Or.inl ⟨by rfl, ?_⟩) ?_ ?_
                            rotate_left
                            · intro w'
                              go_simp
                              with_reducible rfl
                            rotate_left
                            · simp only [Act.put, List.setIfInBounds_toArray, List.set_cons_zero, List.set_cons_succ, i64_w, i32_w]
                              rfl
                            refine last_ (i := 13) (N := none) #[true, true, true, true, true, true, true, true, true, true, true, true, true, true] rfl rfl (one_of HT_.out (by kernel_rfl)) (by decide) (fun K hK => ?_)
                            refine skip_ (w1 := ?_) (by rfl) rfl ?_ ?_
                            rotate_left
                            · go_simp
                              rfl
                            refine hK.out _ _ ?_
                            clear hK K
                            refine done_ (done_of HT_.out (by kernel_rfl)) ?_
                            try go_wp2
                            go_roundg k3
                            case measure => have := HJ4.out; have := HK2.out; have := HK3.out; omega
                            case rel => exact ⟨(y361), (wrap64 (x17_3 + 1)), (by first | rfl | (simp; done) | (simp [*]; done)), H', ⟨by have := HJ4.out; have := HK2.out; have := HK3.out; omega⟩, ⟨by (with_reducible repeat (first | apply Kd.R_alloc | apply Kd.R_drewN | apply Kd.R_drew)); exact HQ32.out⟩, ⟨by (with_reducible repeat (first | apply Kd.R_alloc | apply Kd.R_drewN | apply Kd.R_drew)); exact Kd.R_mono (Kd.R_far (p := ⟨go29, (x17_3 : Int).toNat, none⟩) (Kd.R_mono HO_15.out (fun k_ hk => (⟨hk, fun e_ => hk (by rw [e_]; rfl)⟩ : _ ∧ k_ ≠ go29))) (fun _ hk => hk.2) (.int .i64 (wrap64 (((rd_T35 l0 x17_3).f0) + (rd t355 x17_3))))) (fun _ hk => hk.1)⟩, ⟨by repeat (first | (with_reducible first | exact HB.out | apply below_alloc | apply pw_below_drewN | apply below_drew1 | refine below_set ?_ GB29.out) | exact HB.out)⟩⟩
                          · rw [if_neg c28] at H
                            exact absurd H (by simp)
                        · rw [if_neg c27] at H
                          exact absurd H (by simp)
                      · rw [if_neg c26] at H
                        exact absurd H (by simp)
                    · rw [if_neg c25] at H
                      have c25b0 : decide (x17_3 < (l0.length : Int)) = false := decide_eq_false c25
                      clear c25
                      simp only [Option.some.injEq, Prod.mk.injEq] at H
                      obtain ⟨rfl, rfl⟩ := H
                      go_wp2
                      go_ret2
                      exact ⟨_, by first | rfl | (simp [errW_none, errW_some] <;> rfl) | (simp [*, errW_none, errW_some] <;> rfl), by (with_reducible repeat (first | apply Kd.R_alloc | apply Kd.R_drewN | apply Kd.R_drew)); exact Kd.R_mono HO_10.out (fun _ hk => trivial), by repeat (first | (with_reducible first | exact HB.out | apply below_alloc | apply pw_below_drewN | apply below_drew1) | exact HB.out)⟩
              · rw [if_neg c21] at H
                have c21b0 : decide (a1 < x12_2) = false := decide_eq_false c21
                clear c21
                replace H := Option.bind_eq_some_iff.mp H
                obtain ⟨t362, A330, H⟩ := H
                replace H : ((purflingref15_free.f k2 l0).bind fun t365 => (purflingref15_Auto.l2 k2 l0 a1 x10_2 x12_2 ([] : List Int) t362 t365 0)) = some (r1, r2) := H
                have A33 := Aside0.mk A330
                clear A330
                replace H := Option.bind_eq_some_iff.mp H
                obtain ⟨t365, A340, H⟩ := H
                replace H : (purflingref15_Auto.l2 k2 l0 a1 x10_2 x12_2 ([] : List Int) t362 t365 0) = some (r1, r2) := H
                have A34 := Aside0.mk A340
                clear A340
                have H' := Aside0.mk H
                clear H
                go_wp2_with (first | ((with_reducible refine gate_callee (f := 45) rfl ?_); refine goesL_ (some 112) rfl rfl Try.func45 (by kernel_rfl) rfl #[.slice A0 l0.length c0] rfl (by (try simp only [List.map_toArray, List.map_cons, List.map_nil]); first | done | rfl | (simp only [List.length_drop, List.length_take]; rfl)) ?_; (with_reducible refine (purflingref15_member.calls k2 _ _ l0 t362 _ ?side1 ?side2 A33.out).mono ?_); (case side1 => repeat (first | exact (Kd.C_below HR0.out HB.out) | (with_reducible refine Kd.C_alloc ?_ _) | (with_reducible refine Kd.C_drewN ?_ _) | (with_reducible refine Kd.C_drew ?_))); (case side2 => exact HC0.out); rintro e w35 ⟨v363, rfl, ho0, hb⟩; refine ⟨_, rfl, ?_⟩; have n0_ := Aside0.mk (Kd.R_below (by (with_reducible repeat (first | apply Kd.R_alloc | apply Kd.R_drewN | apply Kd.R_drew)); exact HO_10.out) hb); have n1_ := Aside0.mk (Kd.R_below (by (with_reducible repeat (first | apply Kd.R_alloc | apply Kd.R_drewN | apply Kd.R_drew)); exact HO_11.out) hb); have n2_ := Aside0.mk (Kd.R_lower ho0 (below_size (by repeat (first | (with_reducible first | exact HB.out | apply below_alloc | apply pw_below_drewN | apply below_drew1) | exact HB.out)))); have n3_ := Aside0.mk (below_step (by repeat (first | (with_reducible first | exact HB.out | apply below_alloc | apply pw_below_drewN | apply below_drew1) | exact HB.out)) hb); clear HO_10; clear HO_11; clear HB; have HO_10 := n0_; have HO_11 := n1_; have HO364 := n2_; have HB := n3_; clear n0_ n1_ n2_ n3_; (try clear hb); (try clear hb2); (try clear hk); (try clear hi); (try clear ho0)) | ((with_reducible refine gate_callee (f := 46) rfl ?_); refine goesL_ (some 114) rfl rfl Try.func46 (by kernel_rfl) rfl #[.slice A0 l0.length c0] rfl (by (try simp only [List.map_toArray, List.map_cons, List.map_nil]); first | done | rfl | (simp only [List.length_drop, List.length_take]; rfl)) ?_; (with_reducible refine (purflingref15_free.calls k2 _ _ l0 t365 _ ?side1 ?side2 A34.out).mono ?_); (case side1 => repeat (first | exact (Kd.C_below HR0.out HB.out) | (with_reducible refine Kd.C_alloc ?_ _) | (with_reducible refine Kd.C_drewN ?_ _) | (with_reducible refine Kd.C_drew ?_))); (case side2 => exact HC0.out); rintro e w36 ⟨v366, rfl, ho0, hb⟩; refine ⟨_, rfl, ?_⟩; have n0_ := Aside0.mk (Kd.R_elder' (by (with_reducible repeat (first | apply Kd.R_alloc | apply Kd.R_drewN | apply Kd.R_drew)); exact HO_10.out) (Kd.R_base ho0) hb); have n1_ := Aside0.mk (Kd.R_elder' (by (with_reducible repeat (first | apply Kd.R_alloc | apply Kd.R_drewN | apply Kd.R_drew)); exact HO_11.out) (Kd.R_base ho0) hb); have n2_ := Aside0.mk (Kd.R_below (by (with_reducible repeat (first | apply Kd.R_alloc | apply Kd.R_drewN | apply Kd.R_drew)); exact HO364.out) hb); have n3_ := Aside0.mk (Kd.R_lower (Kd.R_new' (Kd.R_new' ho0 (Kd.R_lt (by (with_reducible repeat (first | apply Kd.R_alloc | apply Kd.R_drewN | apply Kd.R_drew)); exact HO_10.out))) (Kd.R_lt (by (with_reducible repeat (first | apply Kd.R_alloc | apply Kd.R_drewN | apply Kd.R_drew)); exact HO_11.out))) (below_size (by repeat (first | (with_reducible first | exact HB.out | apply below_alloc | apply pw_below_drewN | apply below_drew1) | exact HB.out)))); have n4_ := Aside0.mk (below_step (by repeat (first | (with_reducible first | exact HB.out | apply below_alloc | apply pw_below_drewN | apply below_drew1) | exact HB.out)) hb); clear HO_10; clear HO_11; clear HO364; clear HB; have HO_10 := n0_; have HO_11 := n1_; have HO364 := n2_; have HO367 := n3_; have HB := n4_; clear n0_ n1_ n2_ n3_ n4_; (try clear hb); (try clear hb2); (try clear hk); (try clear hi); (try clear ho0)))
                go_loopg [18, 21] k2 (fun kq v18 v21 w' => ∃ (x18_3 : List Int) (x21_3 : Int), v21 = .int .i64 x21_3 ∧ Aside0 (purflingref15_Auto.l2 kq l0 a1 x10_2 x12_2 x18_3 t362 t365 x21_3 = some (r1, r2)) ∧ Aside0 (kq ≤ k2) ∧ Aside0 (Kd.R (Kd.int .i64) 2 w' w.heap.size (fun k_ => some k_ ≠ (v18 : Value).ownBlock ∧ some k_ ≠ (v366 : Value).ownBlock) u10 x10_2) ∧ Aside0 (Kd.R (Kd.int .i64) 2 w' w.heap.size (fun k_ => some k_ ≠ (u10 : Value).ownBlock ∧ some k_ ≠ (v366 : Value).ownBlock) v18 x18_3) ∧ Aside0 (Kd.R Kd.bool 4 w' w.heap.size (fun _ => True) v363 t362) ∧ Aside0 (Kd.R (Kd.int .i64) 2 w' w.heap.size (fun k_ => some k_ ≠ (u10 : Value).ownBlock ∧ some k_ ≠ (v18 : Value).ownBlock) v366 t365) ∧ Aside0 (Below w.heap.size w w'))
                case atStart => exact ⟨(([] : List Int)), (0), (by first | rfl | (simp; done) | (simp [*]; done)), H', ⟨Nat.le_refl _⟩, ⟨by (with_reducible repeat (first | apply Kd.R_alloc | apply Kd.R_drewN | apply Kd.R_drew)); exact Kd.R_mono HO_10.out (fun _ hk => ⟨(by simp [Value.ownBlock]), hk.2⟩)⟩, ⟨by first | exact Kd.R_nil _ _ _ _ _ | exact Kd.N_nil _ _ _ _ _ | exact Kd.V_nil _ _ _ _ _ | exact Kd.Q_nil _ _ _ _ _ | exact Kd.S_nil _ _ _ _ _⟩, ⟨by (with_reducible repeat (first | apply Kd.R_alloc | apply Kd.R_drewN | apply Kd.R_drew)); exact HO364.out⟩, ⟨by (with_reducible repeat (first | apply Kd.R_alloc | apply Kd.R_drewN | apply Kd.R_drew)); exact Kd.R_mono HO367.out (fun _ hk => ⟨hk.1.2, (by simp [Value.ownBlock])⟩)⟩, ⟨by repeat (first | (with_reducible first | exact HB.out | apply below_alloc | apply pw_below_drewN | apply below_drew1) | exact HB.out)⟩⟩
                case round =>
                  clear H'
                  try clear c1
                  try clear c2
                  try clear p2
                  try clear q2
                  try clear hx2
                  try clear hf2
                  try clear p3
                  try clear q3
                  try clear hx3
                  try clear c4
                  try clear p6
                  try clear c7
                  try clear c8
                  try clear c8b0
                  try clear c8b1
                  try clear c8b2
                  try clear c9
                  try clear c9b0
                  try clear c10
                  try clear c11
                  try clear c11b0
                  try clear c12
                  try clear c12b0
                  try clear c14
                  try clear c16
                  try clear c18
                  try clear c21
                  try clear c21b0
                  try clear c25
                  try clear c25b0
                  try clear c26
                  try clear c26b0
                  try clear c27
                  try clear c27b0
                  try clear c28
                  try clear c28b0
                  try clear p29
                  try clear q29
                  try clear hx29
                  try clear hf29
                  try clear p34
                  try clear q34
                  try clear hx34
                  try clear p35
                  try clear q35
                  try clear hx35
                  try clear p36
                  try clear q36
                  try clear hx36
                  try clear hx29_0
                  try clear hx345_0
                  try clear hx345_1
                  try clear hx345_2
                  try clear hx345_3
                  try clear hx350_0
                  try clear hx350_1
                  try clear hx350_2
                  try clear hx350_3
                  try clear hx359_0
                  try clear hx359_1
                  try clear hx359_2
                  try clear hx359_3
                  try clear hx360_0
                  try clear p2
                  try clear p29
                  try clear p3
                  try clear p345
                  try clear p350
                  try clear p359
                  try clear p360
                  try clear p6
                  try clear q29
                  try clear q3
                  try clear q345
                  try clear q350
                  try clear q359
                  try clear q360
                  obtain ⟨x18_3, x21_3, rfl, HA, HK3, HO_10, HO_18, HO_19, HO_20, HB⟩ := hrel
                  cases gk with
                  | zero => exact absurd HA.out (by simp [purflingref15_Auto.l2])
                  | succ k3 =>
                    have H := HA.out
                    clear HA
                    simp only [purflingref15_Auto.l2] at H
                    by_cases c37 : x21_3 < (l0.length : Int)
                    · rw [if_pos c37] at H
                      have c37b0 : decide (x21_3 < (l0.length : Int)) = true := decide_eq_true c37
                      clear c37
                      by_cases c38 : 0 ≤ x21_3
                      · rw [if_pos c38] at H
                        have c38b0 : decide (0 ≤ x21_3) = true := decide_eq_true c38
                        clear c38
                        by_cases c39 : x21_3 < (t362.length : Int)
                        · rw [if_pos c39] at H
                          have c39b0 : decide (x21_3 < (t362.length : Int)) = true := decide_eq_true c39
                          clear c39
                          obtain ⟨bq40, hbq40⟩ : ∃ b_ : Bool, b_ = (rdOf false t362 x21_3) := ⟨_, rfl⟩
                          replace H : (if bq40 = true then (if x21_3 < (t365.length : Int) then (if x18_3.length < 17592186044416 then (purflingref15_Auto.l2 k3 l0 a1 x10_2 x12_2 (x18_3 ++ [rd t365 x21_3]) t362 t365 (wrap64 (x21_3 + 1))) else (none)) else (none)) else (purflingref15_Auto.l2 k3 l0 a1 x10_2 x12_2 x18_3 t362 t365 (wrap64 (x21_3 + 1)))) = some (r1, r2) := by rw [← hbq40] at H; exact H
                          have Nbq40 := Aside0.mk hbq40
                          clear hbq40
                          by_cases c41 : bq40 = true
                          · subst c41
                            have H1 : (if x21_3 < (t365.length : Int) then (if x18_3.length < 17592186044416 then (purflingref15_Auto.l2 k3 l0 a1 x10_2 x12_2 (x18_3 ++ [rd t365 x21_3]) t362 t365 (wrap64 (x21_3 + 1))) else (none)) else (none)) = some (r1, r2) := by rw [if_pos rfl] at H; exact H
                            clear H
                            have H := H1
                            clear H1
                            by_cases c42 : x21_3 < (t365.length : Int)
                            · rw [if_pos c42] at H
                              have c42b0 : decide (x21_3 < (t365.length : Int)) = true := decide_eq_true c42
                              clear c42
                              by_cases c43 : x18_3.length < 17592186044416
                              · rw [if_pos c43] at H
                                have LMc43 := Aside0.mk c43
                                clear c43
                                obtain ⟨y370, hy370⟩ : ∃ y_ : List Int, y_ = (x18_3 ++ [rd t365 x21_3]) := ⟨_, rfl⟩
                                replace H : (purflingref15_Auto.l2 k3 l0 a1 x10_2 x12_2 y370 t362 t365 (wrap64 (x21_3 + 1))) = some (r1, r2) := by first | (rw [hy370]; with_reducible exact H) | (have H2_ := (Option.bind_some _ _).symm.trans H; rw [hy370]; with_reducible exact H2_) | (have H2_ := (Option.bind_some _ _).symm.trans H; with_reducible exact H2_) | with_reducible exact H | (rw [hy370]; exact H) | exact H
                                have Ny370 := Aside0.mk hy370
                                clear hy370
                                have H' := Aside0.mk H
                                clear H
                                obtain ⟨Ao44, co44, eo44⟩ := Kd.R_slice HO_19.out
                                subst eo44
                                have p368 : 0 ≤ (x21_3 : Int) := of_decide_eq_true (by first | (with_reducible assumption) | assumption)
                                have q368 : x21_3 < (t362.length : Int) := of_decide_eq_true (by first | (with_reducible assumption) | assumption)
                                obtain ⟨ad368, e368, hx368_0⟩ := Kd.at_bool (Kd.R_reads' HO_19.out).2.2 x21_3 p368 q368
                                (try rw [← Nbq40.out] at hx368_0)
                                cases e368
                                replace p368 := eq_true p368
                                replace q368 := eq_true q368
                                obtain ⟨Ao45, co45, eo45⟩ := Kd.R_slice HO_20.out
                                subst eo45
                                have p369 : 0 ≤ (x21_3 : Int) := of_decide_eq_true (by first | (with_reducible assumption) | assumption)
                                have q369 : x21_3 < (t365.length : Int) := of_decide_eq_true (by first | (with_reducible assumption) | assumption)
                                obtain ⟨ad369, e369, hx369_0⟩ := Kd.at_int (Kd.R_reads' HO_20.out).2.2 x21_3 p369 q369
                                cases e369
                                replace p369 := eq_true p369
                                replace q369 := eq_true q369
                                go_wp2_with (first | ((with_reducible refine gate_builtin (b := .append) (xs := #[.tmp 125, .tmp 130]) rfl ?_); (try (refine gate_guard (by rfl) ?_; dsimp only)); at_builtin; refine Kd.R_append (Kd.int .i64) (w0 := w) w.heap.size rfl (.tmp 125) (.tmp 130) 24 2 (.int .i64 0) 8 rfl Try.underlying24 info2 rfl (by decide) (by omega) u18 x18_3 (rd t365 x21_3) [.int .i64 (rd t365 x21_3)] (fun k_ => some k_ ≠ (u10 : Value).ownBlock ∧ some k_ ≠ (.slice (some ad369) t365.length co45 : Value).ownBlock) (fun _ => False) rfl rfl ?aP (fun _ hk => hk.elim) ?aF ?aO ?aB ?aS ?aL ?_; (case aP => exact rfl); (case aB => exact (by repeat (first | (with_reducible first | exact HB.out | apply below_alloc | apply pw_below_drewN | apply below_drew1) | exact HB.out))); (case aF => exact (fun k_ hk => ⟨Kd.fresh' (Kd.R_lt (by (with_reducible repeat (first | apply Kd.R_alloc | apply Kd.R_drewN | apply Kd.R_drew)); exact HO_10.out)) k_ hk, Kd.fresh' (Kd.R_lt (by (with_reducible repeat (first | apply Kd.R_alloc | apply Kd.R_drewN | apply Kd.R_drew)); exact HO_20.out)) k_ hk⟩)); (case aO => exact (by (with_reducible repeat (first | apply Kd.R_alloc | apply Kd.R_drewN | apply Kd.R_drew)); exact HO_18.out)); (case aS => exact (below_size (by repeat (first | (with_reducible first | exact HB.out | apply below_alloc | apply pw_below_drewN | apply below_drew1) | exact HB.out)))); (case aL => have := LMc43.out; omega); intro v371 w46 ho hb hg hat; rw [← Ny370.out] at ho; have n0_ := Aside0.mk (Kd.R_after (ok := (fun k_ => some k_ ≠ (.slice (some ad369) t365.length co45 : Value).ownBlock)) (by (with_reducible repeat (first | apply Kd.R_alloc | apply Kd.R_drewN | apply Kd.R_drew)); exact Kd.R_mono HO_10.out (fun _ hk => ⟨hk.2, hk.1⟩)) hg hat); have n1_ := Aside0.mk (Kd.R_over' (by (with_reducible repeat (first | apply Kd.R_alloc | apply Kd.R_drewN | apply Kd.R_drew)); exact HO_19.out) (Kd.R_typed (by (with_reducible repeat (first | apply Kd.R_alloc | apply Kd.R_drewN | apply Kd.R_drew)); exact HO_18.out)) (by decide) hg); have n2_ := Aside0.mk (Kd.R_after (ok := (fun k_ => some k_ ≠ (u10 : Value).ownBlock)) (by (with_reducible repeat (first | apply Kd.R_alloc | apply Kd.R_drewN | apply Kd.R_drew)); exact HO_20.out) hg hat); have n3_ := Aside0.mk (hb); have n4_ := Aside0.mk (ho); clear HO_10; clear HO_19; clear HO_20; clear HB; clear HO_18; have HO_10 := n0_; have HO_19 := n1_; have HO_20 := n2_; have HB := n3_; have HO372 := n4_; clear n0_ n1_ n2_ n3_ n4_; clear ho hb hg hat))
                                go_roundg k3
                                case measure => have := HJ4.out; have := HK2.out; have := HK3.out; omega
                                case rel => exact ⟨(y370), (wrap64 (x21_3 + 1)), (by first | rfl | (simp; done) | (simp [*]; done)), H', ⟨by have := HJ4.out; have := HK2.out; have := HK3.out; omega⟩, ⟨by (with_reducible repeat (first | apply Kd.R_alloc | apply Kd.R_drewN | apply Kd.R_drew)); exact Kd.R_mono HO_10.out (fun _ hk => ⟨hk.2, hk.1⟩)⟩, ⟨by (with_reducible repeat (first | apply Kd.R_alloc | apply Kd.R_drewN | apply Kd.R_drew)); exact HO372.out⟩, ⟨by (with_reducible repeat (first | apply Kd.R_alloc | apply Kd.R_drewN | apply Kd.R_drew)); exact HO_19.out⟩, ⟨by (with_reducible repeat (first | apply Kd.R_alloc | apply Kd.R_drewN | apply Kd.R_drew)); exact HO_20.out⟩, ⟨by repeat (first | (with_reducible first | exact HB.out | apply below_alloc | apply pw_below_drewN | apply below_drew1) | exact HB.out)⟩⟩
                              · rw [if_neg c43] at H
                                exact absurd H (by simp)
                            · rw [if_neg c42] at H
                              exact absurd H (by simp)
                          · replace c41 := Bool.eq_false_iff.mpr c41
                            subst c41
                            have H1 : (purflingref15_Auto.l2 k3 l0 a1 x10_2 x12_2 x18_3 t362 t365 (wrap64 (x21_3 + 1))) = some (r1, r2) := by rw [if_neg (show ¬ (false = true) by decide)] at H; exact H
                            clear H
                            have H := H1
                            clear H1
                            have H' := Aside0.mk H
                            clear H
                            obtain ⟨Ao47, co47, eo47⟩ := Kd.R_slice HO_19.out
                            subst eo47
                            have p368 : 0 ≤ (x21_3 : Int) := of_decide_eq_true (by first | (with_reducible assumption) | assumption)
                            have q368 : x21_3 < (t362.length : Int) := of_decide_eq_true (by first | (with_reducible assumption) | assumption)
                            obtain ⟨ad368, e368, hx368_0⟩ := Kd.at_bool (Kd.R_reads' HO_19.out).2.2 x21_3 p368 q368
                            (try rw [← Nbq40.out] at hx368_0)
                            cases e368
                            replace p368 := eq_true p368
                            replace q368 := eq_true q368
                            go_wp2
                            go_roundg k3
                            case measure => have := HJ4.out; have := HK2.out; have := HK3.out; omega
                            case rel => exact ⟨(x18_3), (wrap64 (x21_3 + 1)), (by first | rfl | (simp; done) | (simp [*]; done)), H', ⟨by have := HJ4.out; have := HK2.out; have := HK3.out; omega⟩, ⟨by (with_reducible repeat (first | apply Kd.R_alloc | apply Kd.R_drewN | apply Kd.R_drew)); exact HO_10.out⟩, ⟨by (with_reducible repeat (first | apply Kd.R_alloc | apply Kd.R_drewN | apply Kd.R_drew)); exact HO_18.out⟩, ⟨by (with_reducible repeat (first | apply Kd.R_alloc | apply Kd.R_drewN | apply Kd.R_drew)); exact HO_19.out⟩, ⟨by (with_reducible repeat (first | apply Kd.R_alloc | apply Kd.R_drewN | apply Kd.R_drew)); exact HO_20.out⟩, ⟨by repeat (first | (with_reducible first | exact HB.out | apply below_alloc | apply pw_below_drewN | apply below_drew1) | exact HB.out)⟩⟩
                        · rw [if_neg c39] at H
                          exact absurd H (by simp)
                      · rw [if_neg c38] at H
                        exact absurd H (by simp)
                    · rw [if_neg c37] at H
                      have c37b0 : decide (x21_3 < (l0.length : Int)) = false := decide_eq_false c37
                      clear c37
                      replace H := Option.bind_eq_some_iff.mp H
                      obtain ⟨⟨t373, t374⟩, A480, H⟩ := H
                      replace H : (purflingref15_Auto.l3 k3 l0 x10_2 t362 t373 0 0) = some (r1, r2) := H
                      have A48 := Aside0.mk A480
                      clear A480
                      have H' := Aside0.mk H
                      clear H
                      obtain ⟨Ao49, co49, eo49⟩ := Kd.R_slice HO_18.out
                      subst eo49
                      go_wp2_with (first | ((with_reducible refine gate_callee (f := 44) rfl ?_); refine goesL_ (some 137) rfl rfl Try.func44 (by kernel_rfl) rfl #[.int .i64 (wrap64 (a1 - x12_2)), .slice Ao49 x18_3.length co49] rfl (by (try simp only [List.map_toArray, List.map_cons, List.map_nil]); first | done | rfl | (simp only [List.length_drop, List.length_take]; rfl)) ?_; (with_reducible refine (purflingref01_Share.calls k3 (wrap64 (a1 - x12_2)) _ _ x18_3 t373 t374 _ ?side1 ?side2 A48.out).mono ?_); (case side1 => repeat (first | exact (Kd.R_reads' HO_18.out).2.2 | (with_reducible refine Kd.C_alloc ?_ _) | (with_reducible refine Kd.C_drewN ?_ _) | (with_reducible refine Kd.C_drew ?_))); (case side2 => exact (Kd.R_reads' HO_18.out).2.1); rintro e w50 ⟨v375, rfl, ho0, hb⟩; refine ⟨_, rfl, ?_⟩; have n0_ := Aside0.mk (Kd.R_elder' (by (with_reducible repeat (first | apply Kd.R_alloc | apply Kd.R_drewN | apply Kd.R_drew)); exact HO_10.out) (Kd.R_base ho0) hb); have n1_ := Aside0.mk (Kd.R_elder' (by (with_reducible repeat (first | apply Kd.R_alloc | apply Kd.R_drewN | apply Kd.R_drew)); exact HO_18.out) (Kd.R_base ho0) hb); have n2_ := Aside0.mk (Kd.R_below (by (with_reducible repeat (first | apply Kd.R_alloc | apply Kd.R_drewN | apply Kd.R_drew)); exact HO_19.out) hb); have n3_ := Aside0.mk (Kd.R_elder' (by (with_reducible repeat (first | apply Kd.R_alloc | apply Kd.R_drewN | apply Kd.R_drew)); exact HO_20.out) (Kd.R_base ho0) hb); have n4_ := Aside0.mk (Kd.R_lower (Kd.R_new' (Kd.R_new' (Kd.R_new' ho0 (Kd.R_lt (by (with_reducible repeat (first | apply Kd.R_alloc | apply Kd.R_drewN | apply Kd.R_drew)); exact HO_10.out))) (Kd.R_lt (by (with_reducible repeat (first | apply Kd.R_alloc | apply Kd.R_drewN | apply Kd.R_drew)); exact HO_18.out))) (Kd.R_lt (by (with_reducible repeat (first | apply Kd.R_alloc | apply Kd.R_drewN | apply Kd.R_drew)); exact HO_20.out))) (below_size (by repeat (first | (with_reducible first | exact HB.out | apply below_alloc | apply pw_below_drewN | apply below_drew1) | exact HB.out)))); have n5_ := Aside0.mk (below_step (by repeat (first | (with_reducible first | exact HB.out | apply below_alloc | apply pw_below_drewN | apply below_drew1) | exact HB.out)) hb); clear HO_10; clear HO_18; clear HO_19; clear HO_20; clear HB; have HO_10 := n0_; have HO_18 := n1_; have HO_19 := n2_; have HO_20 := n3_; have HO376 := n4_; have HB := n5_; clear n0_ n1_ n2_ n3_ n4_ n5_; (try clear hb); (try clear hb2); (try clear hk); (try clear hi); (try clear ho0)))
                      go_loopg [24, 25] k3 (fun kq v24 v25 w' => ∃ (x10_4 : List Int) (x24_4 : Int) (x25_4 : Int), v24 = .int .i64 x24_4 ∧ v25 = .int .i64 x25_4 ∧ Aside0 (purflingref15_Auto.l3 kq l0 x10_4 t362 t373 x24_4 x25_4 = some (r1, r2)) ∧ Aside0 (kq ≤ k3) ∧ Aside0 (Kd.R (Kd.int .i64) 2 w' w.heap.size (fun k_ => some k_ ≠ (v375 : Value).ownBlock) u10 x10_4) ∧ Aside0 (Kd.R Kd.bool 4 w' w.heap.size (fun _ => True) v363 t362) ∧ Aside0 (Kd.R (Kd.int .i64) 2 w' w.heap.size (fun k_ => some k_ ≠ (u10 : Value).ownBlock) v375 t373) ∧ Aside0 (Below w.heap.size w w'))
                      case atStart => exact ⟨(x10_2), (0), (0), (by first | rfl | (simp; done) | (simp [*]; done)), (by first | rfl | (simp; done) | (simp [*]; done)), H', ⟨Nat.le_refl _⟩, ⟨by (with_reducible repeat (first | apply Kd.R_alloc | apply Kd.R_drewN | apply Kd.R_drew)); exact Kd.R_mono HO_10.out (fun _ hk => hk.2)⟩, ⟨by (with_reducible repeat (first | apply Kd.R_alloc | apply Kd.R_drewN | apply Kd.R_drew)); exact HO_19.out⟩, ⟨by (with_reducible repeat (first | apply Kd.R_alloc | apply Kd.R_drewN | apply Kd.R_drew)); exact Kd.R_mono HO376.out (fun _ hk => hk.1.1.2)⟩, ⟨by repeat (first | (with_reducible first | exact HB.out | apply below_alloc | apply pw_below_drewN | apply below_drew1) | exact HB.out)⟩⟩
                      case round =>
                        clear H'
                        try clear c1
                        try clear c2
                        try clear p2
                        try clear q2
                        try clear hx2
                        try clear hf2
                        try clear c3
                        try clear p3
                        try clear q3
                        try clear hx3
                        try clear c4
                        try clear q4
                        try clear p6
                        try clear c7
                        try clear c8
                        try clear c8b0
                        try clear c8b1
                        try clear c8b2
                        try clear c9
                        try clear c9b0
                        try clear c10
                        try clear c11
                        try clear c11b0
                        try clear c12
                        try clear c12b0
                        try clear c14
                        try clear c16
                        try clear c18
                        try clear c21
                        try clear c21b0
                        try clear c25
                        try clear c25b0
                        try clear c26
                        try clear c26b0
                        try clear c27
                        try clear c27b0
                        try clear c28
                        try clear c28b0
                        try clear p29
                        try clear q29
                        try clear hx29
                        try clear hf29
                        try clear p34
                        try clear q34
                        try clear hx34
                        try clear p35
                        try clear q35
                        try clear hx35
                        try clear p36
                        try clear q36
                        try clear hx36
                        try clear c37
                        try clear c37b0
                        try clear c38
                        try clear c38b0
                        try clear c39
                        try clear c39b0
                        try clear q40
                        try clear c41
                        try clear c42
                        try clear c42b0
                        try clear c43
                        try clear c44
                        try clear c45
                        try clear c46
                        try clear hx29_0
                        try clear hx345_0
                        try clear hx345_1
                        try clear hx345_2
                        try clear hx345_3
                        try clear hx350_0
                        try clear hx350_1
                        try clear hx350_2
                        try clear hx350_3
                        try clear hx359_0
                        try clear hx359_1
                        try clear hx359_2
                        try clear hx359_3
                        try clear hx360_0
                        try clear hx368_0
                        try clear hx369_0
                        try clear p2
                        try clear p29
                        try clear p3
                        try clear p34
                        try clear p345
                        try clear p35
                        try clear p350
                        try clear p359
                        try clear p36
                        try clear p360
                        try clear p368
                        try clear p369
                        try clear p6
                        try clear q2
                        try clear q29
                        try clear q3
                        try clear q34
                        try clear q345
                        try clear q35
                        try clear q350
                        try clear q359
                        try clear q36
                        try clear q360
                        try clear q368
                        try clear q369
                        obtain ⟨x10_4, x24_4, x25_4, rfl, rfl, HA, HK4, HO_10, HO_19, HO_22, HB⟩ := hrel
                        cases gk with
                        | zero => exact absurd HA.out (by simp [purflingref15_Auto.l3])
                        | succ k4 =>
                          have H := HA.out
                          clear HA
                          simp only [purflingref15_Auto.l3] at H
                          by_cases c51 : x25_4 < (l0.length : Int)
                          · rw [if_pos c51] at H
                            have c51b0 : decide (x25_4 < (l0.length : Int)) = true := decide_eq_true c51
                            clear c51
                            by_cases c52 : 0 ≤ x25_4
                            · rw [if_pos c52] at H
                              have c52b0 : decide (0 ≤ x25_4) = true := decide_eq_true c52
                              clear c52
                              by_cases c53 : x25_4 < (t362.length : Int)
                              · rw [if_pos c53] at H
                                have c53b0 : decide (x25_4 < (t362.length : Int)) = true := decide_eq_true c53
                                clear c53
                                obtain ⟨bq54, hbq54⟩ : ∃ b_ : Bool, b_ = (rdOf false t362 x25_4) := ⟨_, rfl⟩
                                replace H : (if bq54 = true then (if x25_4 < (x10_4.length : Int) then (if 0 ≤ x24_4 then (if x24_4 < (t373.length : Int) then (purflingref15_Auto.l3 k4 l0 (x10_4.set (x25_4 : Int).toNat (wrap64 ((rd x10_4 x25_4) + (rd t373 x24_4)))) t362 t373 (wrap64 (x24_4 + 1)) (wrap64 (x25_4 + 1))) else (none)) else (none)) else (none)) else (purflingref15_Auto.l3 k4 l0 x10_4 t362 t373 x24_4 (wrap64 (x25_4 + 1)))) = some (r1, r2) := by rw [← hbq54] at H; exact H
                                have Nbq54 := Aside0.mk hbq54
                                clear hbq54
                                by_cases c55 : bq54 = true
                                · subst c55
                                  have H1 : (if x25_4 < (x10_4.length : Int) then (if 0 ≤ x24_4 then (if x24_4 < (t373.length : Int) then (purflingref15_Auto.l3 k4 l0 (x10_4.set (x25_4 : Int).toNat (wrap64 ((rd x10_4 x25_4) + (rd t373 x24_4)))) t362 t373 (wrap64 (x24_4 + 1)) (wrap64 (x25_4 + 1))) else (none)) else (none)) else (none)) = some (r1, r2) := by rw [if_pos rfl] at H; exact H
                                  clear H
                                  have H := H1
                                  clear H1
                                  by_cases c56 : x25_4 < (x10_4.length : Int)
                                  · rw [if_pos c56] at H
                                    have c56b0 : decide (x25_4 < (x10_4.length : Int)) = true := decide_eq_true c56
                                    clear c56
                                    by_cases c57 : 0 ≤ x24_4
                                    · rw [if_pos c57] at H
                                      have c57b0 : decide (0 ≤ x24_4) = true := decide_eq_true c57
                                      clear c57
                                      by_cases c58 : x24_4 < (t373.length : Int)
                                      · rw [if_pos c58] at H
                                        have c58b0 : decide (x24_4 < (t373.length : Int)) = true := decide_eq_true c58
                                        clear c58
                                        obtain ⟨y380, hy380⟩ : ∃ y_ : List Int, y_ = (x10_4.set (x25_4 : Int).toNat (wrap64 ((rd x10_4 x25_4) + (rd t373 x24_4)))) := ⟨_, rfl⟩
                                        replace H : (purflingref15_Auto.l3 k4 l0 y380 t362 t373 (wrap64 (x24_4 + 1)) (wrap64 (x25_4 + 1))) = some (r1, r2) := by first | (rw [hy380]; with_reducible exact H) | (have H2_ := (Option.bind_some _ _).symm.trans H; rw [hy380]; with_reducible exact H2_) | (have H2_ := (Option.bind_some _ _).symm.trans H; with_reducible exact H2_) | with_reducible exact H | (rw [hy380]; exact H) | exact H
                                        have Ny380 := Aside0.mk hy380
                                        clear hy380
                                        have H' := Aside0.mk H
                                        clear H
                                        obtain ⟨Ao60, co60, eo60⟩ := Kd.R_slice HO_19.out
                                        subst eo60
                                        have p377 : 0 ≤ (x25_4 : Int) := of_decide_eq_true (by first | (with_reducible assumption) | assumption)
                                        have q377 : x25_4 < (t362.length : Int) := of_decide_eq_true (by first | (with_reducible assumption) | assumption)
                                        obtain ⟨ad377, e377, hx377_0⟩ := Kd.at_bool (Kd.R_reads' HO_19.out).2.2 x25_4 p377 q377
                                        (try rw [← Nbq54.out] at hx377_0)
                                        cases e377
                                        replace p377 := eq_true p377
                                        replace q377 := eq_true q377
                                        try go_wp2
                                        have n0_ := Aside0.mk (Kd.R_drew HO_10.out)
                                        have n1_ := Aside0.mk (Kd.R_drew HO_19.out)
                                        have n2_ := Aside0.mk (Kd.R_drew HO_22.out)
                                        have n3_ := Aside0.mk (below_drew1 HB.out)
                                        clear HO_10
                                        clear HO_19
                                        clear HO_22
                                        clear HB
                                        have HO_10 := n0_
                                        have HO_19 := n1_
                                        have HO_22 := n2_
                                        have HB := n3_
                                        clear n0_ n1_ n2_ n3_
                                        obtain ⟨Ao62, co62, eo62⟩ := Kd.R_slice HO_10.out
                                        (first | subst eo62 | (injection eo62 with f1_ f2_ f3_; have f4_ := f1_.symm; have f5_ := f3_.symm; clear f1_ f2_ f3_; subst f4_; subst f5_))
                                        have p378 : 0 ≤ (x25_4 : Int) := of_decide_eq_true (by first | (with_reducible assumption) | assumption)
                                        have q378 : x25_4 < (x10_4.length : Int) := of_decide_eq_true (by first | (with_reducible assumption) | assumption)
                                        obtain ⟨ad378, e378, hx378_0⟩ := Kd.at_int (Kd.R_reads' HO_10.out).2.2 x25_4 p378 q378
                                        cases e378
                                        replace p378 := eq_true p378
                                        replace q378 := eq_true q378
                                        obtain ⟨Ao63, co63, eo63⟩ := Kd.R_slice HO_22.out
                                        (first | subst eo63 | (injection eo63 with f1_ f2_ f3_; have f4_ := f1_.symm; have f5_ := f3_.symm; clear f1_ f2_ f3_; subst f4_; subst f5_))
                                        have p379 : 0 ≤ (x24_4 : Int) := of_decide_eq_true (by first | (with_reducible assumption) | assumption)
                                        have q379 : x24_4 < (t373.length : Int) := of_decide_eq_true (by first | (with_reducible assumption) | assumption)
                                        obtain ⟨ad379, e379, hx379_0⟩ := Kd.at_int (Kd.R_reads' HO_22.out).2.2 x24_4 p379 q379
                                        cases e379
                                        replace p379 := eq_true p379
                                        replace q379 := eq_true q379
                                        have p59 : 0 ≤ (x25_4 : Int) := of_decide_eq_true (by first | (with_reducible assumption) | assumption)
                                        have q59 : (x25_4 : Int) < ((x10_4.length : Int) : Int) := of_decide_eq_true (by first | (with_reducible assumption) | assumption)
                                        obtain ⟨go59, co59, eo59, gb59, gl59, cl59, HG59⟩ := Kd.R_form HO_10.out (by omega)
                                        (first | cases eo59 | (injection eo59 with ea_ en_ ec_; (first | subst ea_ | (injection ea_ with ea_; subst ea_)); subst ec_; clear en_))
                                        have GB59 := Aside0.mk gb59
                                        have GG59 := Aside0.mk HG59
                                        clear gb59 gl59 HG59
                                        (first | simp only [add_plain] at hx378_0 | skip)
                                        obtain ⟨hx59_0, hf59_0⟩ := Kd.R_celln 0 HO_10.out (x25_4 : Int) p59 q59
                                        replace p59 := eq_true p59
                                        replace q59 := eq_true q59
                                        have HP64 := Kd.R_putn HO_10.out (x25_4 : Int) (wrap64 ((rd x10_4 x25_4) + (rd t373 x24_4)))
                                        rw [← Ny380.out] at HP64
                                        have HQ64 := Aside0.mk HP64
                                        clear HP64
                                        refine start_ (n := 13) (S := fun w' => w'.cell? ⟨go59, (x25_4).toNat, none⟩ = some (.int .i64 (rd x10_4 x25_4)) ∧ w'.cell? (ad379.add (x24_4).toNat) = some (.int .i64 (rd t373 x24_4))) (ds := [12]) #[false, false, false, false, false, false, false, false, false, false, false, false, false] (by kernel_rfl) rfl rfl ⟨hx378_0, hx379_0⟩ (fun hHeld => ?_); refine with_tabW purflingref15_Auto.tab35 purflingref15_Auto.bits35 (fun HT_ HW_ => ?_)
                                        generalize wr.drew = w61 at HO_10 HO_19 HO_22 HB GG59 HQ64 hf59_0 hx378_0 hx379_0 hx59_0 hHeld ⊢
                                        refine pure_ (i := 0) (N := some 150) (v := ?_) (a' := ?_) #[true, false, false, false, false, false, false, false, false, false, false, false, false] rfl rfl (any_of HT_.out (by kernel_rfl)) (fun _ _ _ h => h) (Or.inl ⟨by rfl, ?_⟩) ?_ ?_
                                        rotate_left
                                        · intro w'
                                          go_simp
                                          with_reducible rfl
                                        rotate_left
                                        · simp only [Act.put, List.setIfInBounds_toArray, List.set_cons_zero, List.set_cons_succ, i64_w, i32_w]
                                          rfl
                                        refine pure_ (i := 1) (N := some 151) (v := ?_) (a' := ?_) #[true, true, false, false, false, false, false, false, false, false, false, false, false] rfl rfl (any_of HT_.out (by kernel_rfl)) (fun _ _ _ h => h) (Or.inl ⟨by rfl, ?_⟩) ?_ ?_
                                        rotate_left
                                        · intro w'
                                          go_simp
                                          with_reducible rfl
                                        rotate_left
                                        · simp only [Act.put, List.setIfInBounds_toArray, List.set_cons_zero, List.set_cons_succ, i64_w, i32_w]
                                          rfl
                                        refine pure_ (i := 2) (N := some 152) (v := ?_) (a' := ?_) #[true, true, true, false, false, false, false, false, false, false, false, false, false] rfl rfl (any_of HT_.out (by kernel_rfl)) (fun _ _ _ h => h) (Or.inl ⟨by rfl, ?_⟩) ?_ ?_
                                        rotate_left
                                        · intro w'
                                          go_simp
                                          with_reducible rfl
                                        rotate_left
                                        · simp only [Act.put, List.setIfInBounds_toArray, List.set_cons_zero, List.set_cons_succ, i64_w, i32_w]
                                          rfl
                                        refine pure_ (i := 3) (N := some 153) (v := ?_) (a' := ?_) #[true, true, true, true, false, false, false, false, false, false, false, false, false] rfl rfl (any_of HT_.out (by kernel_rfl)) (fun _ _ _ h => h) (Or.inl ⟨by rfl, ?_⟩) ?_ ?_
                                        rotate_left
                                        · intro w'
                                          go_simp
                                          with_reducible rfl
                                        rotate_left
                                        · simp only [Act.put, List.setIfInBounds_toArray, List.set_cons_zero, List.set_cons_succ, i64_w, i32_w]
                                          rfl
                                        refine pure_ (i := 4) (N := some 154) (v := ?_) (a' := ?_) #[true, true, true, true, true, false, false, false, false, false, false, false, false] rfl rfl (any_of HT_.out (by kernel_rfl)) (fun _ _ _ h => h) (Or.inl ⟨by rfl, ?_⟩) ?_ ?_
                                        rotate_left
                                        · intro w'
                                          go_simp
                                          with_reducible rfl
                                        rotate_left
                                        · simp only [Act.put, List.setIfInBounds_toArray, List.set_cons_zero, List.set_cons_succ, i64_w, i32_w]
                                          rfl
                                        refine pure_ (i := 6) (N := some 156) (v := ?_) (a' := ?_) #[true, true, true, true, true, false, true, false, false, false, false, false, false] rfl rfl (any_of HT_.out (by kernel_rfl)) (fun _ _ _ h => h) (Or.inl ⟨by rfl, ?_⟩) ?_ ?_
                                        rotate_left
                                        · intro w'
                                          go_simp
                                          with_reducible rfl
                                        rotate_left
                                        · simp only [Act.put, List.setIfInBounds_toArray, List.set_cons_zero, List.set_cons_succ, i64_w, i32_w]
                                          rfl
                                        refine pure_ (i := 7) (N := some 157) (v := ?_) (a' := ?_) #[true, true, true, true, true, false, true, true, false, false, false, false, false] rfl rfl (any_of HT_.out (by kernel_rfl)) (fun _ _ _ h => h) (Or.inl ⟨by rfl, ?_⟩) ?_ ?_
                                        rotate_left
                                        · intro w'
                                          go_simp
                                          with_reducible rfl
                                        rotate_left
                                        · simp only [Act.put, List.setIfInBounds_toArray, List.set_cons_zero, List.set_cons_succ, i64_w, i32_w]
                                          rfl
                                        refine pure_ (i := 8) (N := some 158) (v := ?_) (a' := ?_) #[true, true, true, true, true, false, true, true, true, false, false, false, false] rfl rfl (any_of HT_.out (by kernel_rfl)) (fun _ _ _ h => h) (Or.inl ⟨by rfl, ?_⟩) ?_ ?_
                                        rotate_left
                                        · intro w'
                                          go_simp
                                          with_reducible rfl
                                        rotate_left
                                        · simp only [Act.put, List.setIfInBounds_toArray, List.set_cons_zero, List.set_cons_succ, i64_w, i32_w]
                                          rfl
                                        refine take_ (i := 5) (N := some 155) (v := ?_) (a' := ?_) #[true, true, true, true, true, true, true, true, true, false, false, false, false] rfl rfl (take_ofW HT_.out HW_.out (by kernel_rfl)) (fun _ _ _ h => h) (Or.inl ⟨by rfl, ?_⟩) hHeld ?_ ?_
                                        rotate_left
                                        · rintro w' ⟨s0, s1⟩
                                          go_simp
                                          with_reducible rfl
                                        rotate_left
                                        · simp only [Act.put, List.setIfInBounds_toArray, List.set_cons_zero, List.set_cons_succ, i64_w, i32_w]
                                          rfl
                                        refine take_ (i := 9) (N := some 159) (v := ?_) (a' := ?_) #[true, true, true, true, true, true, true, true, true, true, false, false, false] rfl rfl (take_ofW HT_.out HW_.out (by kernel_rfl)) (fun _ _ _ h => h) (Or.inl ⟨by rfl, ?_⟩) hHeld ?_ ?_
                                        rotate_left
                                        · rintro w' ⟨s0, s1⟩
                                          go_simp
                                          with_reducible rfl
                                        rotate_left
                                        · simp only [Act.put, List.setIfInBounds_toArray, List.set_cons_zero, List.set_cons_succ, i64_w, i32_w]
                                          rfl
                                        refine pure_ (i := 10) (N := some 160) (v := ?_) (a' := ?_) #[true, true, true, true, true, true, true, true, true, true, true, false, false] rfl rfl (any_of HT_.out (by kernel_rfl)) (fun _ _ _ h => h) (Or.inl ⟨by rfl, ?_⟩) ?_ ?_
                                        rotate_left
                                        · intro w'
                                          go_simp
                                          with_reducible rfl
                                        rotate_left
                                        · simp only [Act.put, List.setIfInBounds_toArray, List.set_cons_zero, List.set_cons_succ, i64_w, i32_w]
                                          rfl
                                        refine pure_ (i := 11) (N := some 161) (v := ?_) (a' := ?_) #[true, true, true, true, true, true, true, true, true, true, true, true, false] rfl rfl (any_of HT_.out (by kernel_rfl)) (fun _ _ _ h => h) (Or.inl ⟨by rfl, ?_⟩) ?_ ?_
                                        rotate_left
                                        · intro w'
                                          go_simp
                                          with_reducible rfl
                                        rotate_left
                                        · simp only [Act.put, List.setIfInBounds_toArray, List.set_cons_zero, List.set_cons_succ, i64_w, i32_w]
                                          rfl
                                        refine last_ (i := 12) (N := none) #[true, true, true, true, true, true, true, true, true, true, true, true, true] rfl rfl (one_of HT_.out (by kernel_rfl)) (by decide) (fun K hK => ?_)
                                        refine skip_ (w1 := ?_) (by rfl) rfl ?_ ?_
                                        rotate_left
                                        · go_simp
                                          rfl
                                        refine hK.out _ _ ?_
                                        clear hK K
                                        refine done_ (done_of HT_.out (by kernel_rfl)) ?_
                                        try go_wp2
                                        go_roundg k4
                                        case measure => have := HJ4.out; have := HK2.out; have := HK3.out; have := HK4.out; omega
                                        case rel => exact ⟨(y380), (wrap64 (x24_4 + 1)), (wrap64 (x25_4 + 1)), (by first | rfl | (simp; done) | (simp [*]; done)), (by first | rfl | (simp; done) | (simp [*]; done)), H', ⟨by have := HJ4.out; have := HK2.out; have := HK3.out; have := HK4.out; omega⟩, ⟨by (with_reducible repeat (first | apply Kd.R_alloc | apply Kd.R_drewN | apply Kd.R_drew)); exact HQ64.out⟩, ⟨by (with_reducible repeat (first | apply Kd.R_alloc | apply Kd.R_drewN | apply Kd.R_drew)); exact Kd.R_mono (Kd.R_far (p := ⟨go59, (x25_4 : Int).toNat, none⟩) (Kd.R_types HO_19.out GG59.out (by decide)) (fun _ hk => hk.2) (.int .i64 (wrap64 ((rd x10_4 x25_4) + (rd t373 x24_4))))) (fun _ hk => trivial)⟩, ⟨by (with_reducible repeat (first | apply Kd.R_alloc | apply Kd.R_drewN | apply Kd.R_drew)); exact Kd.R_mono (Kd.R_far (p := ⟨go59, (x25_4 : Int).toNat, none⟩) (Kd.R_mono HO_22.out (fun k_ hk => (⟨hk, fun e_ => hk (by rw [e_]; rfl)⟩ : _ ∧ k_ ≠ go59))) (fun _ hk => hk.2) (.int .i64 (wrap64 ((rd x10_4 x25_4) + (rd t373 x24_4))))) (fun _ hk => hk.1)⟩, ⟨by repeat (first | (with_reducible first | exact HB.out | apply below_alloc | apply pw_below_drewN | apply below_drew1 | refine below_set ?_ GB59.out) | exact HB.out)⟩⟩
                                      · rw [if_neg c58] at H
                                        exact absurd H (by simp)
                                    · rw [if_neg c57] at H
                                      exact absurd H (by simp)
                                  · rw [if_neg c56] at H
                                    exact absurd H (by simp)
                                · replace c55 := Bool.eq_false_iff.mpr c55
                                  subst c55
                                  have H1 : (purflingref15_Auto.l3 k4 l0 x10_4 t362 t373 x24_4 (wrap64 (x25_4 + 1))) = some (r1, r2) := by rw [if_neg (show ¬ (false = true) by decide)] at H; exact H
                                  clear H
                                  have H := H1
                                  clear H1
                                  have H' := Aside0.mk H
                                  clear H
                                  obtain ⟨Ao65, co65, eo65⟩ := Kd.R_slice HO_19.out
                                  subst eo65
                                  have p377 : 0 ≤ (x25_4 : Int) := of_decide_eq_true (by first | (with_reducible assumption) | assumption)
                                  have q377 : x25_4 < (t362.length : Int) := of_decide_eq_true (by first | (with_reducible assumption) | assumption)
                                  obtain ⟨ad377, e377, hx377_0⟩ := Kd.at_bool (Kd.R_reads' HO_19.out).2.2 x25_4 p377 q377
                                  (try rw [← Nbq54.out] at hx377_0)
                                  cases e377
                                  replace p377 := eq_true p377
                                  replace q377 := eq_true q377
                                  go_wp2
                                  go_roundg k4
                                  case measure => have := HJ4.out; have := HK2.out; have := HK3.out; have := HK4.out; omega
                                  case rel => exact ⟨(x10_4), (x24_4), (wrap64 (x25_4 + 1)), (by first | rfl | (simp; done) | (simp [*]; done)), (by first | rfl | (simp; done) | (simp [*]; done)), H', ⟨by have := HJ4.out; have := HK2.out; have := HK3.out; have := HK4.out; omega⟩, ⟨by (with_reducible repeat (first | apply Kd.R_alloc | apply Kd.R_drewN | apply Kd.R_drew)); exact HO_10.out⟩, ⟨by (with_reducible repeat (first | apply Kd.R_alloc | apply Kd.R_drewN | apply Kd.R_drew)); exact HO_19.out⟩, ⟨by (with_reducible repeat (first | apply Kd.R_alloc | apply Kd.R_drewN | apply Kd.R_drew)); exact HO_22.out⟩, ⟨by repeat (first | (with_reducible first | exact HB.out | apply below_alloc | apply pw_below_drewN | apply below_drew1) | exact HB.out)⟩⟩
                              · rw [if_neg c53] at H
                                exact absurd H (by simp)
                            · rw [if_neg c52] at H
                              exact absurd H (by simp)
                          · rw [if_neg c51] at H
                            have c51b0 : decide (x25_4 < (l0.length : Int)) = false := decide_eq_false c51
                            clear c51
                            simp only [Option.some.injEq, Prod.mk.injEq] at H
                            obtain ⟨rfl, rfl⟩ := H
                            go_wp2
                            go_ret2
                            exact ⟨_, by first | rfl | (simp [errW_none, errW_some] <;> rfl) | (simp [*, errW_none, errW_some] <;> rfl), by (with_reducible repeat (first | apply Kd.R_alloc | apply Kd.R_drewN | apply Kd.R_drew)); exact Kd.R_mono HO_10.out (fun _ hk => trivial), by repeat (first | (with_reducible first | exact HB.out | apply below_alloc | apply pw_below_drewN | apply below_drew1) | exact HB.out)⟩

end Go.Proofs.Ytilfgmclhoidiaa.PA
