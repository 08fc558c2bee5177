-- MADE by wip/tools/xprint.py of this repo: the kit's print.py, turned by this session, and texts by hand
import Derived.Test.YtgghbmhmpkeccaaPAx0
import Derived.Test.YtgghbmhmpkeccaaPAx4
import Derived.Test.YtgghbmhmpkeccaaPAx20
import Derived.Test.YtgghbmhmpkeccaaPAx23
import Derived.Test.YtgghbmhmpkeccaaPAx24
namespace Go.Proofs.Ytgghbmhmpkeccaa.PA
open Go.RowKit Go.Proofs.YtgghbmhmpkeccaaW.PrintWords Go.Proofs.YtgghbmhmpkeccaaW.PrintLast Go.Proofs.YtgghbmhmpkeccaaW.PrintMore
attribute [local go_sem] max2_int min2_int max_two min_two max_three min_three max_four min_four   -- for this text's walks alone
set_option linter.unusedVariables false
set_option linter.unusedSimpArgs false

/-! ### purflingref16_Least: function 9 -/
mutual
def purflingref16_Least.j0 : Nat → List Int → List (S35) → List Int → Int → Bool → Option (List Int × Int)
 | 0, _, _, _, _, _ => none
 | k + 1, x0, x1, x2, x3, x32 => if x32 = true then (some (([] : List Int), 160)) else (purflingref16_Least.l0 k x0 x1 x2 x3 ([] : List Int) 0)
def purflingref16_Least.l0 : Nat → List Int → List (S35) → List Int → Int → List Int → Int → Option (List Int × Int)
 | 0, _, _, _, _, _, _ => none
 | k + 1, x0, x1, x2, x3, x11, x12 => if x12 < (x0.length : Int) then (if 0 ≤ x12 then (if x11.length < 17592186044416 then (purflingref16_Least.l0 k x0 x1 x2 x3 (x11 ++ [mx (rd x0 x12) 0]) (wrap64 (x12 + 1))) else (none)) else (none)) else (purflingref16_Least.l1 k x1 x2 x3 x11 1 0)
def purflingref16_Least.l1 : Nat → List (S35) → List Int → Int → List Int → Int → Int → Option (List Int × Int)
 | 0, _, _, _, _, _, _ => none
 | k + 1, x1, x2, x3, x11, x13, x14 => if x14 < (x1.length : Int) then (if 0 ≤ x14 then (if ((rd_T35 x1 x14).f3) = 1 then (if 0 ≤ ((rd_T35 x1 x14).f1) then (if ((rd_T35 x1 x14).f1) < (x11.length : Int) then (if x14 < (x2.length : Int) then (purflingref16_Least.l1 k x1 x2 x3 (x11.set (((rd_T35 x1 x14).f1) : Int).toNat (mx (rd x11 ((rd_T35 x1 x14).f1)) (rd x2 x14))) (mx x13 ((rd_T35 x1 x14).f3)) (wrap64 (x14 + 1))) else (none)) else (none)) else (none)) else (purflingref16_Least.l1 k x1 x2 x3 x11 (mx x13 ((rd_T35 x1 x14).f3)) (wrap64 (x14 + 1)))) else (none)) else (purflingref16_Least.l2 k x1 x2 x3 x11 x13 2)
def purflingref16_Least.l2 : Nat → List (S35) → List Int → Int → List Int → Int → Int → Option (List Int × Int)
 | 0, _, _, _, _, _, _ => none
 | k + 1, x1, x2, x3, x11, x13, x15 => if x15 ≤ x13 then (purflingref16_Least.l3 k x1 x2 x3 x11 x13 x15 0) else (some (x11, 0))
def purflingref16_Least.l3 : Nat → List (S35) → List Int → Int → List Int → Int → Int → Int → Option (List Int × Int)
 | 0, _, _, _, _, _, _, _ => none
 | k + 1, x1, x2, x3, x11, x13, x15, x16 => if x16 < (x1.length : Int) then (if 0 ≤ x16 then (if ((rd_T35 x1 x16).f3) = x15 then (if 0 ≤ ((rd_T35 x1 x16).f1) then (if ((rd_T35 x1 x16).f1) ≤ (wrap64 (((rd_T35 x1 x16).f1) + x15)) then (if (wrap64 (((rd_T35 x1 x16).f1) + x15)) ≤ (x11.length : Int) then ((some ((x11.take ((wrap64 (((rd_T35 x1 x16).f1) + x15)) : Int).toNat).drop (((rd_T35 x1 x16).f1) : Int).toNat : List Int)).bind fun y274 => (if ([] : List Int).length + y274.length < 17592186044416 then ((some (([] : List Int) ++ y274 : List Int)).bind fun y278 => (if x16 < (x2.length : Int) then ((purflingref14_Part.f k (rd x2 x16) x3 x15).bind fun t282 => ((purflingref14_Over.f k t282 y278 y278).bind fun bt283 => (if bt283.2 = 0 then (purflingref16_Least.l4 k x1 x2 x3 x11 x13 x15 x16 bt283.1 0) else (some (([] : List Int), 160))))) else (none))) else (none))) else (none)) else (none)) else (none)) else (purflingref16_Least.l3 k x1 x2 x3 x11 x13 x15 (wrap64 (x16 + 1)))) else (none)) else (purflingref16_Least.l2 k x1 x2 x3 x11 x13 (wrap64 (x15 + 1)))
def purflingref16_Least.l4 : Nat → List (S35) → List Int → Int → List Int → Int → Int → Int → List Int → Int → Option (List Int × Int)
 | 0, _, _, _, _, _, _, _, _, _ => none
 | k + 1, x1, x2, x3, x11, x13, x15, x16, x18, x20 => if x20 < x15 then (if 0 ≤ x16 then (if x16 < (x1.length : Int) then (if 0 ≤ x20 then (if x20 < (x18.length : Int) then (if 0 ≤ (wrap64 (((rd_T35 x1 x16).f1) + x20)) then (if (wrap64 (((rd_T35 x1 x16).f1) + x20)) < (x11.length : Int) then (purflingref16_Least.l4 k x1 x2 x3 (x11.set ((wrap64 (((rd_T35 x1 x16).f1) + x20)) : Int).toNat (rd x18 x20)) x13 x15 x16 x18 (wrap64 (x20 + 1))) else (none)) else (none)) else (none)) else (none)) else (none)) else (none)) else (purflingref16_Least.l3 k x1 x2 x3 x11 x13 x15 (wrap64 (x16 + 1)))
end
def purflingref16_Least.f (k : Nat) (l0 : List Int) (l1 : List (S35)) (l2 : List Int) (a3 : Int) : Option (List Int × Int) := (purflingref16_Right.f k l0 l1 l2 a3).bind fun t259 => (if t259 = true then (purflingref16_Least.j0 k l0 l1 l2 a3 (decide ((l1.length : Int) > 1000))) else (purflingref16_Least.j0 k l0 l1 l2 a3 true))
theorem purflingref16_Least.mono_l : ∀ k, (∀ y0 y1 y2 y3 y4, LeO (purflingref16_Least.j0 k y0 y1 y2 y3 y4) (purflingref16_Least.j0 (k + 1) y0 y1 y2 y3 y4)) ∧ (∀ y0 y1 y2 y3 y4 y5, LeO (purflingref16_Least.l0 k y0 y1 y2 y3 y4 y5) (purflingref16_Least.l0 (k + 1) y0 y1 y2 y3 y4 y5)) ∧ (∀ y0 y1 y2 y3 y4 y5, LeO (purflingref16_Least.l1 k y0 y1 y2 y3 y4 y5) (purflingref16_Least.l1 (k + 1) y0 y1 y2 y3 y4 y5)) ∧ (∀ y0 y1 y2 y3 y4 y5, LeO (purflingref16_Least.l2 k y0 y1 y2 y3 y4 y5) (purflingref16_Least.l2 (k + 1) y0 y1 y2 y3 y4 y5)) ∧ (∀ y0 y1 y2 y3 y4 y5 y6, LeO (purflingref16_Least.l3 k y0 y1 y2 y3 y4 y5 y6) (purflingref16_Least.l3 (k + 1) y0 y1 y2 y3 y4 y5 y6)) ∧ (∀ y0 y1 y2 y3 y4 y5 y6 y7 y8, LeO (purflingref16_Least.l4 k y0 y1 y2 y3 y4 y5 y6 y7 y8) (purflingref16_Least.l4 (k + 1) y0 y1 y2 y3 y4 y5 y6 y7 y8))
 | 0 => ⟨fun _ _ _ _ _ r h => by simp [purflingref16_Least.j0] at h, fun _ _ _ _ _ _ r h => by simp [purflingref16_Least.l0] at h, fun _ _ _ _ _ _ r h => by simp [purflingref16_Least.l1] at h, fun _ _ _ _ _ _ r h => by simp [purflingref16_Least.l2] at h, fun _ _ _ _ _ _ _ r h => by simp [purflingref16_Least.l3] at h, fun _ _ _ _ _ _ _ _ _ r h => by simp [purflingref16_Least.l4] at h⟩
 | k + 1 => by
  obtain ⟨ih0, ih1, ih2, ih3, ih4, ih5⟩ := purflingref16_Least.mono_l k
  refine ⟨?_, ?_, ?_, ?_, ?_, ?_⟩
  ·intro y0 y1 y2 y3 y4
   unfold purflingref16_Least.j0
   repeat' first
   | (with_reducible exact ih0 _ _ _ _ _)
   | (with_reducible exact ih1 _ _ _ _ _ _)
   | (with_reducible exact ih2 _ _ _ _ _ _)
   | (with_reducible exact ih3 _ _ _ _ _ _)
   | (with_reducible exact ih4 _ _ _ _ _ _ _)
   | (with_reducible exact ih5 _ _ _ _ _ _ _ _ _)
   | (with_reducible exact purflingref14_Over.mono _ _ _ _)
   | (with_reducible exact purflingref14_Part.mono _ _ _ _)
   | (with_reducible exact purflingref16_Right.mono _ _ _ _ _)
   | (with_reducible exact LeO.refl _)
   | (with_reducible exact LeO.none _)
   | (with_reducible refine LeO.ite ?_ ?_)
   | (with_reducible refine LeO.bind ?_ (fun _ => ?_))
   | exact ih0 _ _ _ _ _
   | exact ih1 _ _ _ _ _ _
   | exact ih2 _ _ _ _ _ _
   | exact ih3 _ _ _ _ _ _
   | exact ih4 _ _ _ _ _ _ _
   | exact ih5 _ _ _ _ _ _ _ _ _
   | exact purflingref14_Over.mono _ _ _ _
   | exact purflingref14_Part.mono _ _ _ _
   | exact purflingref16_Right.mono _ _ _ _ _
   | exact LeO.none _
   | refine LeO.ite ?_ ?_
   | refine LeO.bind ?_ (fun _ => ?_)
  ·intro y0 y1 y2 y3 y4 y5
   unfold purflingref16_Least.l0
   repeat' first
   | (with_reducible exact ih0 _ _ _ _ _)
   | (with_reducible exact ih1 _ _ _ _ _ _)
   | (with_reducible exact ih2 _ _ _ _ _ _)
   | (with_reducible exact ih3 _ _ _ _ _ _)
   | (with_reducible exact ih4 _ _ _ _ _ _ _)
   | (with_reducible exact ih5 _ _ _ _ _ _ _ _ _)
   | (with_reducible exact purflingref14_Over.mono _ _ _ _)
   | (with_reducible exact purflingref14_Part.mono _ _ _ _)
   | (with_reducible exact purflingref16_Right.mono _ _ _ _ _)
   | (with_reducible exact LeO.refl _)
   | (with_reducible exact LeO.none _)
   | (with_reducible refine LeO.ite ?_ ?_)
   | (with_reducible refine LeO.bind ?_ (fun _ => ?_))
   | exact ih0 _ _ _ _ _
   | exact ih1 _ _ _ _ _ _
   | exact ih2 _ _ _ _ _ _
   | exact ih3 _ _ _ _ _ _
   | exact ih4 _ _ _ _ _ _ _
   | exact ih5 _ _ _ _ _ _ _ _ _
   | exact purflingref14_Over.mono _ _ _ _
   | exact purflingref14_Part.mono _ _ _ _
   | exact purflingref16_Right.mono _ _ _ _ _
   | exact LeO.none _
   | refine LeO.ite ?_ ?_
   | refine LeO.bind ?_ (fun _ => ?_)
  ·intro y0 y1 y2 y3 y4 y5
   unfold purflingref16_Least.l1
   repeat' first
   | (with_reducible exact ih0 _ _ _ _ _)
   | (with_reducible exact ih1 _ _ _ _ _ _)
   | (with_reducible exact ih2 _ _ _ _ _ _)
   | (with_reducible exact ih3 _ _ _ _ _ _)
   | (with_reducible exact ih4 _ _ _ _ _ _ _)
   | (with_reducible exact ih5 _ _ _ _ _ _ _ _ _)
   | (with_reducible exact purflingref14_Over.mono _ _ _ _)
   | (with_reducible exact purflingref14_Part.mono _ _ _ _)
   | (with_reducible exact purflingref16_Right.mono _ _ _ _ _)
   | (with_reducible exact LeO.refl _)
   | (with_reducible exact LeO.none _)
   | (with_reducible refine LeO.ite ?_ ?_)
   | (with_reducible refine LeO.bind ?_ (fun _ => ?_))
   | exact ih0 _ _ _ _ _
   | exact ih1 _ _ _ _ _ _
   | exact ih2 _ _ _ _ _ _
   | exact ih3 _ _ _ _ _ _
   | exact ih4 _ _ _ _ _ _ _
   | exact ih5 _ _ _ _ _ _ _ _ _
   | exact purflingref14_Over.mono _ _ _ _
   | exact purflingref14_Part.mono _ _ _ _
   | exact purflingref16_Right.mono _ _ _ _ _
   | exact LeO.none _
   | refine LeO.ite ?_ ?_
   | refine LeO.bind ?_ (fun _ => ?_)
  ·intro y0 y1 y2 y3 y4 y5
   unfold purflingref16_Least.l2
   repeat' first
   | (with_reducible exact ih0 _ _ _ _ _)
   | (with_reducible exact ih1 _ _ _ _ _ _)
   | (with_reducible exact ih2 _ _ _ _ _ _)
   | (with_reducible exact ih3 _ _ _ _ _ _)
   | (with_reducible exact ih4 _ _ _ _ _ _ _)
   | (with_reducible exact ih5 _ _ _ _ _ _ _ _ _)
   | (with_reducible exact purflingref14_Over.mono _ _ _ _)
   | (with_reducible exact purflingref14_Part.mono _ _ _ _)
   | (with_reducible exact purflingref16_Right.mono _ _ _ _ _)
   | (with_reducible exact LeO.refl _)
   | (with_reducible exact LeO.none _)
   | (with_reducible refine LeO.ite ?_ ?_)
   | (with_reducible refine LeO.bind ?_ (fun _ => ?_))
   | exact ih0 _ _ _ _ _
   | exact ih1 _ _ _ _ _ _
   | exact ih2 _ _ _ _ _ _
   | exact ih3 _ _ _ _ _ _
   | exact ih4 _ _ _ _ _ _ _
   | exact ih5 _ _ _ _ _ _ _ _ _
   | exact purflingref14_Over.mono _ _ _ _
   | exact purflingref14_Part.mono _ _ _ _
   | exact purflingref16_Right.mono _ _ _ _ _
   | exact LeO.none _
   | refine LeO.ite ?_ ?_
   | refine LeO.bind ?_ (fun _ => ?_)
  ·intro y0 y1 y2 y3 y4 y5 y6
   unfold purflingref16_Least.l3
   repeat' first
   | (with_reducible exact ih0 _ _ _ _ _)
   | (with_reducible exact ih1 _ _ _ _ _ _)
   | (with_reducible exact ih2 _ _ _ _ _ _)
   | (with_reducible exact ih3 _ _ _ _ _ _)
   | (with_reducible exact ih4 _ _ _ _ _ _ _)
   | (with_reducible exact ih5 _ _ _ _ _ _ _ _ _)
   | (with_reducible exact purflingref14_Over.mono _ _ _ _)
   | (with_reducible exact purflingref14_Part.mono _ _ _ _)
   | (with_reducible exact purflingref16_Right.mono _ _ _ _ _)
   | (with_reducible exact LeO.refl _)
   | (with_reducible exact LeO.none _)
   | (with_reducible refine LeO.ite ?_ ?_)
   | (with_reducible refine LeO.bind ?_ (fun _ => ?_))
   | exact ih0 _ _ _ _ _
   | exact ih1 _ _ _ _ _ _
   | exact ih2 _ _ _ _ _ _
   | exact ih3 _ _ _ _ _ _
   | exact ih4 _ _ _ _ _ _ _
   | exact ih5 _ _ _ _ _ _ _ _ _
   | exact purflingref14_Over.mono _ _ _ _
   | exact purflingref14_Part.mono _ _ _ _
   | exact purflingref16_Right.mono _ _ _ _ _
   | exact LeO.none _
   | refine LeO.ite ?_ ?_
   | refine LeO.bind ?_ (fun _ => ?_)
  ·intro y0 y1 y2 y3 y4 y5 y6 y7 y8
   unfold purflingref16_Least.l4
   repeat' first
   | (with_reducible exact ih0 _ _ _ _ _)
   | (with_reducible exact ih1 _ _ _ _ _ _)
   | (with_reducible exact ih2 _ _ _ _ _ _)
   | (with_reducible exact ih3 _ _ _ _ _ _)
   | (with_reducible exact ih4 _ _ _ _ _ _ _)
   | (with_reducible exact ih5 _ _ _ _ _ _ _ _ _)
   | (with_reducible exact purflingref14_Over.mono _ _ _ _)
   | (with_reducible exact purflingref14_Part.mono _ _ _ _)
   | (with_reducible exact purflingref16_Right.mono _ _ _ _ _)
   | (with_reducible exact LeO.refl _)
   | (with_reducible exact LeO.none _)
   | (with_reducible refine LeO.ite ?_ ?_)
   | (with_reducible refine LeO.bind ?_ (fun _ => ?_))
   | exact ih0 _ _ _ _ _
   | exact ih1 _ _ _ _ _ _
   | exact ih2 _ _ _ _ _ _
   | exact ih3 _ _ _ _ _ _
   | exact ih4 _ _ _ _ _ _ _
   | exact ih5 _ _ _ _ _ _ _ _ _
   | exact purflingref14_Over.mono _ _ _ _
   | exact purflingref14_Part.mono _ _ _ _
   | exact purflingref16_Right.mono _ _ _ _ _
   | exact LeO.none _
   | refine LeO.ite ?_ ?_
   | refine LeO.bind ?_ (fun _ => ?_)
theorem purflingref16_Least.mono : ∀ a0 a1 a2 a3 k, LeO (purflingref16_Least.f k a0 a1 a2 a3) (purflingref16_Least.f (k + 1) a0 a1 a2 a3) := by
 intro a0 a1 a2 a3 k
 obtain ⟨ih0, ih1, ih2, ih3, ih4, ih5⟩ := purflingref16_Least.mono_l k
 unfold purflingref16_Least.f
 repeat' first
   | (with_reducible exact ih0 _ _ _ _ _)
   | (with_reducible exact ih1 _ _ _ _ _ _)
   | (with_reducible exact ih2 _ _ _ _ _ _)
   | (with_reducible exact ih3 _ _ _ _ _ _)
   | (with_reducible exact ih4 _ _ _ _ _ _ _)
   | (with_reducible exact ih5 _ _ _ _ _ _ _ _ _)
   | (with_reducible exact purflingref14_Over.mono _ _ _ _)
   | (with_reducible exact purflingref14_Part.mono _ _ _ _)
   | (with_reducible exact purflingref16_Right.mono _ _ _ _ _)
   | (with_reducible exact LeO.refl _)
   | (with_reducible exact LeO.none _)
   | (with_reducible refine LeO.ite ?_ ?_)
   | (with_reducible refine LeO.bind ?_ (fun _ => ?_))
   | exact ih0 _ _ _ _ _
   | exact ih1 _ _ _ _ _ _
   | exact ih2 _ _ _ _ _ _
   | exact ih3 _ _ _ _ _ _
   | exact ih4 _ _ _ _ _ _ _
   | exact ih5 _ _ _ _ _ _ _ _ _
   | exact purflingref14_Over.mono _ _ _ _
   | exact purflingref14_Part.mono _ _ _ _
   | exact purflingref16_Right.mono _ _ _ _ _
   | exact LeO.none _
   | refine LeO.ite ?_ ?_
   | refine LeO.bind ?_ (fun _ => ?_)
def purflingref16_Least.T15 : Bool × List (List Nat × List Nat) := (true, [([], []), ([], []), ([], []), ([1, 2], [1, 2]), ([3], [3]), ([4], [4]), ([], []), ([], []), ([], []), ([7, 8], [7, 8]), ([9], [9]), ([10], [10]), ([6, 11], [6, 11]), ([12], [12]), ([], []), ([], []), ([14, 15], [14, 15]), ([16], [16]), ([13, 17], [13, 17]), ([0, 5, 0, 1, 2, 3, 4, 5, 6, 7, 8, 9, 10, 11, 12, 13, 14, 15, 16, 17, 18], [0, 5]), ([19, 18, 0, 1, 2, 3, 4, 5, 6, 7, 8, 9, 10, 11, 12, 13, 14, 15, 16, 17, 18], [18, 19])])
def purflingref16_Least.B15 : List Nat := [0, 0, 0, 6, 14, 30, 0, 0, 0, 384, 896, 1920, 4032, 8128, 0, 0, 49152, 114688, 262080, 524287, 1048575]
theorem purflingref16_Least.tab15 : rtab .any (opsOf Try.f9 15) = purflingref16_Least.T15 := by kernel_rfl
theorem purflingref16_Least.bits15 : waitsOk purflingref16_Least.T15.2 purflingref16_Least.B15 = true := by kernel_rfl
def purflingref16_Least.T24 : Bool × List (List Nat × List Nat) := (true, [([], []), ([], []), ([], []), ([], []), ([2, 3], [2, 3]), ([4], [4]), ([5], [5]), ([], []), ([], []), ([7, 8], [7, 8]), ([9], [9]), ([10], [10]), ([], []), ([11, 12], [11, 12]), ([1, 6, 13], [1, 6, 13]), ([0, 14], [0, 14]), ([15, 15, 0, 1, 2, 3, 4, 5, 6, 7, 8, 9, 10, 11, 12, 13, 14, 15], [0, 15])])
def purflingref16_Least.B24 : List Nat := [0, 0, 0, 0, 12, 28, 60, 0, 0, 384, 896, 1920, 0, 8064, 16382, 32767, 65535]
theorem purflingref16_Least.tab24 : rtab .any (opsOf Try.f9 24) = purflingref16_Least.T24 := by kernel_rfl
theorem purflingref16_Least.bits24 : waitsOk purflingref16_Least.T24.2 purflingref16_Least.B24 = true := by kernel_rfl
def purflingref16_Least.T31 : Bool × List (List Nat × List Nat) := (true, [([], []), ([], []), ([], []), ([1, 2], [1, 2]), ([3], [3]), ([4], [4]), ([], []), ([5, 6], [5, 6]), ([], []), ([], []), ([8, 9], [8, 9]), ([10], [10]), ([0, 7, 0, 1, 2, 3, 4, 5, 6, 7, 8, 9, 10, 11], [0, 7]), ([12, 11, 0, 1, 2, 3, 4, 5, 6, 7, 8, 9, 10, 11], [11, 12])])
def purflingref16_Least.B31 : List Nat := [0, 0, 0, 6, 14, 30, 0, 126, 0, 0, 768, 1792, 4095, 8191]
theorem purflingref16_Least.tab31 : rtab .any (opsOf Try.f9 31) = purflingref16_Least.T31 := by kernel_rfl
theorem purflingref16_Least.bits31 : waitsOk purflingref16_Least.T31.2 purflingref16_Least.B31 = true := by kernel_rfl
set_option maxHeartbeats 8000000 in
set_option maxRecDepth 100000 in
theorem purflingref16_Least.calls (k : Nat) (A0 : Option Addr) (c0 : Nat) (l0 : List Int) (A1 : Option Addr) (c1 : Nat) (l1 : List (S35)) (A2 : Option Addr) (c2 : Nat) (l2 : List Int) (a3 : Int) (r1 : List Int) (r2 : Int) (w : World) (hr0 : Kd.C (Kd.int .i64) w A0 l0.length l0) (hc0 : l0.length ≤ c0) (hr1 : Kd.C k35 w A1 l1.length l1) (hc1 : l1.length ≤ c1) (hr2 : Kd.C (Kd.int .i64) w A2 l2.length l2) (hc2 : l2.length ≤ c2) (h : purflingref16_Least.f k l0 l1 l2 a3 = some (r1, r2)) :
  Calls Try.prog 9 #[.slice A0 l0.length c0, .slice A1 l1.length c1, .slice A2 l2.length c2, .int .i64 a3] w fun e w' => ∃ v0_ : Value, e = .returned (.tuple #[v0_, .int .i64 r2]) ∧ Kd.R (Kd.int .i64) 2 w' w.heap.size (fun _ => True) v0_ r1 ∧ Below w.heap.size w w' := by
 have HR0 := Aside0.mk hr0
 have HC0 := Aside0.mk hc0
 clear hr0 hc0
 have HR1 := Aside0.mk hr1
 have HC1 := Aside0.mk hc1
 clear hr1 hc1
 have HR2 := Aside0.mk hr2
 have HC2 := Aside0.mk hc2
 clear hr2 hc2
 have HB := Aside0.mk (Below.refl w.heap.size w)
 have H : ((purflingref16_Right.f k l0 l1 l2 a3).bind fun t259 => (if t259 = true then (purflingref16_Least.j0 k l0 l1 l2 a3 (decide ((l1.length : Int) > 1000))) else (purflingref16_Least.j0 k l0 l1 l2 a3 true))) = some (r1, r2) := h
 clear h
 replace H := Option.bind_eq_some_iff.mp H
 obtain ⟨t259, A50, H⟩ := H
 replace H : (if t259 = true then (purflingref16_Least.j0 k l0 l1 l2 a3 (decide ((l1.length : Int) > 1000))) else (purflingref16_Least.j0 k l0 l1 l2 a3 true)) = some (r1, r2) := H
 have A5 := Aside0.mk A50
 clear A50
 have HC6 := Aside0.mk H
 clear H
 go_enter Try.func9, Try.ntmps9
 go_upto_region 2 with (first | ((with_reducible refine gate_callee (f := 11) rfl ?_); refine goesL_ (some 25) rfl rfl Try.func11 (by kernel_rfl) rfl #[.slice A0 l0.length c0, .slice A1 l1.length c1, .slice A2 l2.length c2, .int .i64 a3] rfl (by (try simp only [List.map_toArray, List.map_cons, List.map_nil]); first | done | rfl | (simp only [List.length_drop, List.length_take]; rfl)) ?_; (with_reducible refine (purflingref16_Right.calls k _ _ l0 _ _ l1 _ _ l2 a3 t259 _ ?side1 ?side2 ?side3 ?side4 ?side5 ?side6 A5.out).mono ?_); (case side1 => repeat (first | exact HR0.out | (with_reducible refine Kd.C_alloc ?_ _) | (with_reducible refine Kd.C_drewN ?_ _) | (with_reducible refine Kd.C_drew ?_))); (case side2 => exact HC0.out); (case side3 => repeat (first | exact HR1.out | (with_reducible refine Kd.C_alloc ?_ _) | (with_reducible refine Kd.C_drewN ?_ _) | (with_reducible refine Kd.C_drew ?_))); (case side4 => exact HC1.out); (case side5 => repeat (first | exact HR2.out | (with_reducible refine Kd.C_alloc ?_ _) | (with_reducible refine Kd.C_drewN ?_ _) | (with_reducible refine Kd.C_drew ?_))); (case side6 => exact HC2.out); rintro e w7 ⟨rfl, hb⟩; refine ⟨_, rfl, ?_⟩; have n0_ := Aside0.mk (below_step (by repeat (first | (with_reducible first | exact HB.out | apply below_alloc | apply pw_below_drewN | apply below_drew1) | exact HB.out)) hb); clear HB; have HB := n0_; clear n0_; (try clear hb); (try clear hb2); (try clear hk); (try clear hi)))
 (try simp only [Act.put, List.setIfInBounds_toArray, List.set_cons_zero, List.set_cons_succ])
 go_cut [32] (fun v32 wc => ∃ (kq : Nat) (x32_5 : Bool), v32 = .bool x32_5 ∧ Aside0 (purflingref16_Least.j0 kq l0 l1 l2 a3 x32_5 = some (r1, r2)) ∧ Aside0 (kq ≤ k) ∧ Aside0 (Below w.heap.size w wc))
 case first =>
  have H := HC6.out
  clear HC6
  by_cases c8 : t259 = true
  ·subst c8
   have H1 : (purflingref16_Least.j0 k l0 l1 l2 a3 (decide ((l1.length : Int) > 1000))) = some (r1, r2) := by rw [if_pos rfl] at H; exact H
   clear H
   have H := H1
   clear H1
   have H' := Aside0.mk H
   clear H
   go_wp2
   go_meet
   case rel => exact ⟨_, (decide ((l1.length : Int) > 1000)), (by first | rfl | (simp; done) | (simp [*]; done)), H', ⟨by first | omega | exact Nat.le_refl _⟩, ⟨by repeat (first | (with_reducible first | exact HB.out | apply below_alloc | apply pw_below_drewN | apply below_drew1) | exact HB.out)⟩⟩
  ·replace c8 := Bool.eq_false_iff.mpr c8
   subst c8
   have H1 : (purflingref16_Least.j0 k l0 l1 l2 a3 true) = some (r1, r2) := by rw [if_neg (show ¬ (false = true) by decide)] at H; exact H
   clear H
   have H := H1
   clear H1
   have H' := Aside0.mk H
   clear H
   go_wp2
   go_meet
   case rel => exact ⟨_, (true), (by first | rfl | (simp; done) | (simp [*]; done)), H', ⟨by first | omega | exact Nat.le_refl _⟩, ⟨by repeat (first | (with_reducible first | exact HB.out | apply below_alloc | apply pw_below_drewN | apply below_drew1) | exact HB.out)⟩⟩
 case rest =>
  clear HC6
  try clear c1
  try clear c2
  try clear p2
  try clear c8
  obtain ⟨kq, x32_5, rfl, HA, HJ5, HB⟩ := hcut
  cases kq with
  | zero => exact absurd HA.out (by simp [purflingref16_Least.j0])
  | succ kj5 =>
   have H := HA.out
   clear HA
   simp only [purflingref16_Least.j0] at H
   by_cases c9 : x32_5 = true
   ·subst c9
    have H1 : (some (([] : List Int), 160)) = some (r1, r2) := by rw [if_pos rfl] at H; exact H
    clear H
    have H := H1
    clear H1
    simp only [Option.some.injEq, Prod.mk.injEq] at H
    obtain ⟨rfl, rfl⟩ := H
    go_wp2
    go_ret2
    exact ⟨_, by first | rfl | (simp [errW_none, errW_some] <;> rfl) | (simp [*, errW_none, errW_some] <;> rfl), by first | exact Kd.R_nil _ _ _ _ _ | exact Kd.N_nil _ _ _ _ _ | exact Kd.V_nil _ _ _ _ _ | exact Kd.Q_nil _ _ _ _ _ | exact Kd.S_nil _ _ _ _ _, by repeat (first | (with_reducible first | exact HB.out | apply below_alloc | apply pw_below_drewN | apply below_drew1) | exact HB.out)⟩
   ·replace c9 := Bool.eq_false_iff.mpr c9
    subst c9
    have H1 : (purflingref16_Least.l0 kj5 l0 l1 l2 a3 ([] : List Int) 0) = some (r1, r2) := by rw [if_neg (show ¬ (false = true) by decide)] at H; exact H
    clear H
    have H := H1
    clear H1
    have H' := Aside0.mk H
    clear H
    go_wp2
    go_loopg [11, 12] kj5 (fun kq v11 v12 w' => ∃ (x11_2 : List Int) (x12_2 : Int), v12 = .int .i64 x12_2 ∧ Aside0 (purflingref16_Least.l0 kq l0 l1 l2 a3 x11_2 x12_2 = some (r1, r2)) ∧ Aside0 (kq ≤ kj5) ∧ Aside0 (Kd.R (Kd.int .i64) 2 w' w.heap.size (fun _ => True) v11 x11_2) ∧ Aside0 (Below w.heap.size w w'))
    case atStart => exact ⟨(([] : List Int)), (0), (by first | rfl | (simp; done) | (simp [*]; done)), H', ⟨Nat.le_refl _⟩, ⟨by first | exact Kd.R_nil _ _ _ _ _ | exact Kd.N_nil _ _ _ _ _ | exact Kd.V_nil _ _ _ _ _ | exact Kd.Q_nil _ _ _ _ _ | exact Kd.S_nil _ _ _ _ _⟩, ⟨by repeat (first | (with_reducible first | exact HB.out | apply below_alloc | apply pw_below_drewN | apply below_drew1) | exact HB.out)⟩⟩
    case round =>
     clear H'
     try clear c1
     try clear c2
     try clear p2
     try clear c8
     try clear c9
     try clear p2
     obtain ⟨x11_2, x12_2, rfl, HA, HK2, HO_11, HB⟩ := hrel
     cases gk with
     | zero => exact absurd HA.out (by simp [purflingref16_Least.l0])
     | succ k2 =>
      have H := HA.out
      clear HA
      simp only [purflingref16_Least.l0] at H
      by_cases c10 : x12_2 < (l0.length : Int)
      ·rw [if_pos c10] at H
       have c10b0 : decide (x12_2 < (l0.length : Int)) = true := decide_eq_true c10
       clear c10
       by_cases c11 : 0 ≤ x12_2
       ·rw [if_pos c11] at H
        have c11b0 : decide (0 ≤ x12_2) = true := decide_eq_true c11
        clear c11
        obtain ⟨ji12, hji12⟩ : ∃ j_ : Int, (mx (rd l0 x12_2) 0) = j_ := ⟨_, rfl⟩
        replace H : (if x11_2.length < 17592186044416 then (purflingref16_Least.l0 k2 l0 l1 l2 a3 (x11_2 ++ [ji12]) (wrap64 (x12_2 + 1))) else (none)) = some (r1, r2) := by first | (rw [hji12] at H; exact H) | (simp only [hji12] at H ⊢; exact H)
        have hji12_ : (if (rd l0 x12_2) < 0 then 0 else (rd l0 x12_2)) = ji12 := hji12
        by_cases c13 : x11_2.length < 17592186044416
        ·rw [if_pos c13] at H
         have LMc13 := Aside0.mk c13
         clear c13
         obtain ⟨y261, hy261⟩ : ∃ y_ : List Int, y_ = (x11_2 ++ [ji12]) := ⟨_, rfl⟩
         replace H : (purflingref16_Least.l0 k2 l0 l1 l2 a3 y261 (wrap64 (x12_2 + 1))) = some (r1, r2) := by first | (rw [hy261]; with_reducible exact H) | (have H2_ := (Option.bind_some _ _).symm.trans H; rw [hy261]; with_reducible exact H2_) | (have H2_ := (Option.bind_some _ _).symm.trans H; with_reducible exact H2_) | with_reducible exact H | (rw [hy261]; exact H) | exact H
         have Ny261 := Aside0.mk hy261
         clear hy261
         have H' := Aside0.mk H
         clear H
         have p260 : 0 ≤ (x12_2 : Int) := of_decide_eq_true (by first | (with_reducible assumption) | assumption)
         have q260 : x12_2 < (l0.length : Int) := of_decide_eq_true (by first | (with_reducible assumption) | assumption)
         obtain ⟨ad260, e260, hx260_0⟩ := Kd.at_int HR0.out x12_2 p260 q260
         cases e260
         replace hx260_0 := (HB.out.cell (World.block_lt_of_cell? w _ hx260_0)).trans hx260_0
         replace p260 := eq_true p260
         replace q260 := eq_true q260
         go_wp2_with (first | ((with_reducible refine gate_builtin (b := .append) (xs := #[.tmp 39, .tmp 45]) rfl ?_); (try (refine gate_guard (by rfl) ?_; dsimp only)); at_builtin; refine Kd.R_append (Kd.int .i64) (w0 := w) w.heap.size rfl (.tmp 39) (.tmp 45) 22 2 (.int .i64 0) 8 rfl Try.underlying22 info2 rfl (by decide) (by omega) u11 x11_2 ji12 [.int .i64 ji12] (fun _ => True) (fun _ => False) rfl rfl ?aP (fun _ hk => hk.elim) ?aF ?aO ?aB ?aS ?aL ?_; (case aP => exact rfl); (case aB => exact (by repeat (first | (with_reducible first | exact HB.out | apply below_alloc | apply pw_below_drewN | apply below_drew1) | exact HB.out))); (case aF => exact (fun _ _ => trivial)); (case aO => exact (by (with_reducible repeat (first | apply Kd.R_alloc | apply Kd.R_drewN | apply Kd.R_drew)); exact HO_11.out)); (case aS => exact (below_size (by repeat (first | (with_reducible first | exact HB.out | apply below_alloc | apply pw_below_drewN | apply below_drew1) | exact HB.out)))); (case aL => have := LMc13.out; omega); intro v262 w14 ho hb hg hat; rw [← Ny261.out] at ho; have n0_ := Aside0.mk (hb); have n1_ := Aside0.mk (ho); clear HB; clear HO_11; have HB := n0_; have HO263 := n1_; clear n0_ n1_; clear ho hb hg hat))
         go_roundg k2
         case measure => have := HJ5.out; have := HK2.out; omega
         case rel => exact ⟨(y261), (wrap64 (x12_2 + 1)), (by first | rfl | (simp; done) | (simp [*]; done)), H', ⟨by have := HJ5.out; have := HK2.out; omega⟩, ⟨by (with_reducible repeat (first | apply Kd.R_alloc | apply Kd.R_drewN | apply Kd.R_drew)); exact HO263.out⟩, ⟨by repeat (first | (with_reducible first | exact HB.out | apply below_alloc | apply pw_below_drewN | apply below_drew1) | exact HB.out)⟩⟩
        ·rw [if_neg c13] at H
         exact absurd H (by simp)
       ·rw [if_neg c11] at H
        exact absurd H (by simp)
      ·rw [if_neg c10] at H
       have c10b0 : decide (x12_2 < (l0.length : Int)) = false := decide_eq_false c10
       clear c10
       have H' := Aside0.mk H
       clear H
       go_wp2
       go_loopg [13, 14] k2 (fun kq v13 v14 w' => ∃ (x11_3 : List Int) (x13_3 : Int) (x14_3 : Int), v13 = .int .i64 x13_3 ∧ v14 = .int .i64 x14_3 ∧ Aside0 (purflingref16_Least.l1 kq l1 l2 a3 x11_3 x13_3 x14_3 = some (r1, r2)) ∧ Aside0 (kq ≤ k2) ∧ Aside0 (Kd.R (Kd.int .i64) 2 w' w.heap.size (fun _ => True) u11 x11_3) ∧ Aside0 (Below w.heap.size w w'))
       case atStart => exact ⟨(x11_2), (1), (0), (by first | rfl | (simp; done) | (simp [*]; done)), (by first | rfl | (simp; done) | (simp [*]; done)), H', ⟨Nat.le_refl _⟩, ⟨by (with_reducible repeat (first | apply Kd.R_alloc | apply Kd.R_drewN | apply Kd.R_drew)); exact HO_11.out⟩, ⟨by repeat (first | (with_reducible first | exact HB.out | apply below_alloc | apply pw_below_drewN | apply below_drew1) | exact HB.out)⟩⟩
       case round =>
        clear H'
        try clear c1
        try clear c2
        try clear p2
        try clear q2
        try clear hx2
        try clear p6
        try clear c8
        try clear c9
        try clear c10
        try clear c10b0
        try clear c11
        try clear c11b0
        try clear c13
        try clear hx260_0
        try clear p2
        try clear p260
        try clear q260
        obtain ⟨x11_3, x13_3, x14_3, rfl, rfl, HA, HK3, HO_11, HB⟩ := hrel
        cases gk with
        | zero => exact absurd HA.out (by simp [purflingref16_Least.l1])
        | succ k3 =>
         have H := HA.out
         clear HA
         simp only [purflingref16_Least.l1] at H
         by_cases c15 : x14_3 < (l1.length : Int)
         ·rw [if_pos c15] at H
          have c15b0 : decide (x14_3 < (l1.length : Int)) = true := decide_eq_true c15
          clear c15
          by_cases c16 : 0 ≤ x14_3
          ·rw [if_pos c16] at H
           have c16b0 : decide (0 ≤ x14_3) = true := decide_eq_true c16
           clear c16
           obtain ⟨ji17, hji17⟩ : ∃ j_ : Int, (mx x13_3 ((rd_T35 l1 x14_3).f3)) = j_ := ⟨_, rfl⟩
           replace H : (if ((rd_T35 l1 x14_3).f3) = 1 then (if 0 ≤ ((rd_T35 l1 x14_3).f1) then (if ((rd_T35 l1 x14_3).f1) < (x11_3.length : Int) then (if x14_3 < (l2.length : Int) then (purflingref16_Least.l1 k3 l1 l2 a3 (x11_3.set (((rd_T35 l1 x14_3).f1) : Int).toNat (mx (rd x11_3 ((rd_T35 l1 x14_3).f1)) (rd l2 x14_3))) ji17 (wrap64 (x14_3 + 1))) else (none)) else (none)) else (none)) else (purflingref16_Least.l1 k3 l1 l2 a3 x11_3 ji17 (wrap64 (x14_3 + 1)))) = some (r1, r2) := by first | (rw [hji17] at H; exact H) | (simp only [hji17] at H ⊢; exact H)
           have hji17_ : (if x13_3 < ((rd_T35 l1 x14_3).f3) then ((rd_T35 l1 x14_3).f3) else x13_3) = ji17 := hji17
           by_cases c18 : ((rd_T35 l1 x14_3).f3) = 1
           ·rw [if_pos c18] at H
            have c18b0 : (((rd_T35 l1 x14_3).f3) == 1) = true := beq_iff_eq.mpr c18
            have c18b1 : (((rd_T35 l1 x14_3).f3) != 1) = false := bne_eq_false_iff_eq.mpr c18
            clear c18
            by_cases c19 : 0 ≤ ((rd_T35 l1 x14_3).f1)
            ·rw [if_pos c19] at H
             have c19b0 : decide (0 ≤ ((rd_T35 l1 x14_3).f1)) = true := decide_eq_true c19
             clear c19
             by_cases c20 : ((rd_T35 l1 x14_3).f1) < (x11_3.length : Int)
             ·rw [if_pos c20] at H
              have c20b0 : decide (((rd_T35 l1 x14_3).f1) < (x11_3.length : Int)) = true := decide_eq_true c20
              clear c20
              by_cases c21 : x14_3 < (l2.length : Int)
              ·rw [if_pos c21] at H
               have c21b0 : decide (x14_3 < (l2.length : Int)) = true := decide_eq_true c21
               clear c21
               obtain ⟨ji22, hji22⟩ : ∃ j_ : Int, (mx (rd x11_3 ((rd_T35 l1 x14_3).f1)) (rd l2 x14_3)) = j_ := ⟨_, rfl⟩
               replace H : (purflingref16_Least.l1 k3 l1 l2 a3 (x11_3.set (((rd_T35 l1 x14_3).f1) : Int).toNat (ji22)) ji17 (wrap64 (x14_3 + 1))) = some (r1, r2) := by first | (rw [hji22] at H; exact H) | (simp only [hji22] at H ⊢; exact H)
               have hji22_ : (if (rd x11_3 ((rd_T35 l1 x14_3).f1)) < (rd l2 x14_3) then (rd l2 x14_3) else (rd x11_3 ((rd_T35 l1 x14_3).f1))) = ji22 := hji22
               obtain ⟨y270, hy270⟩ : ∃ y_ : List Int, y_ = (x11_3.set (((rd_T35 l1 x14_3).f1) : Int).toNat (ji22)) := ⟨_, rfl⟩
               replace H : (purflingref16_Least.l1 k3 l1 l2 a3 y270 ji17 (wrap64 (x14_3 + 1))) = some (r1, r2) := by first | (rw [hy270]; with_reducible exact H) | (have H2_ := (Option.bind_some _ _).symm.trans H; rw [hy270]; with_reducible exact H2_) | (have H2_ := (Option.bind_some _ _).symm.trans H; with_reducible exact H2_) | with_reducible exact H | (rw [hy270]; exact H) | exact H
               have Ny270 := Aside0.mk hy270
               clear hy270
               have H' := Aside0.mk H
               clear H
               have p264 : 0 ≤ (x14_3 : Int) := of_decide_eq_true (by first | (with_reducible assumption) | assumption)
               have q264 : x14_3 < (l1.length : Int) := of_decide_eq_true (by first | (with_reducible assumption) | assumption)
               obtain ⟨ad264, e264, hx264_0, hx264_1, hx264_2, hx264_3, hx264_4⟩ := at_T35 HR1.out x14_3 p264 q264
               cases e264
               replace hx264_0 := (HB.out.cell (World.block_lt_of_cell? w _ hx264_0)).trans hx264_0
               replace hx264_1 := (HB.out.cell (World.block_lt_of_cell? w _ hx264_1)).trans hx264_1
               replace hx264_2 := (HB.out.cell (World.block_lt_of_cell? w _ hx264_2)).trans hx264_2
               replace hx264_3 := (HB.out.cell (World.block_lt_of_cell? w _ hx264_3)).trans hx264_3
               replace hx264_4 := (HB.out.cell (World.block_lt_of_cell? w _ hx264_4)).trans hx264_4
               replace p264 := eq_true p264
               replace q264 := eq_true q264
               have p265 : 0 ≤ (x14_3 : Int) := of_decide_eq_true (by first | (with_reducible assumption) | assumption)
               have q265 : x14_3 < (l1.length : Int) := of_decide_eq_true (by first | (with_reducible assumption) | assumption)
               obtain ⟨ad265, e265, hx265_0, hx265_1, hx265_2, hx265_3, hx265_4⟩ := at_T35 HR1.out x14_3 p265 q265
               obtain rfl : ad264 = ad265 := (by injection e265)
               replace hx265_0 := (HB.out.cell (World.block_lt_of_cell? w _ hx265_0)).trans hx265_0
               replace hx265_1 := (HB.out.cell (World.block_lt_of_cell? w _ hx265_1)).trans hx265_1
               replace hx265_2 := (HB.out.cell (World.block_lt_of_cell? w _ hx265_2)).trans hx265_2
               replace hx265_3 := (HB.out.cell (World.block_lt_of_cell? w _ hx265_3)).trans hx265_3
               replace hx265_4 := (HB.out.cell (World.block_lt_of_cell? w _ hx265_4)).trans hx265_4
               replace p265 := eq_true p265
               replace q265 := eq_true q265
               try go_wp2
               have n0_ := Aside0.mk (Kd.R_drew HO_11.out)
               have n1_ := Aside0.mk (below_drew1 HB.out)
               clear HO_11
               clear HB
               have HO_11 := n0_
               have HB := n1_
               clear n0_ n1_
               have p266 : 0 ≤ (x14_3 : Int) := of_decide_eq_true (by first | (with_reducible assumption) | assumption)
               have q266 : x14_3 < (l1.length : Int) := of_decide_eq_true (by first | (with_reducible assumption) | assumption)
               obtain ⟨ad266, e266, hx266_0, hx266_1, hx266_2, hx266_3, hx266_4⟩ := at_T35 HR1.out x14_3 p266 q266
               have hw266_4 := hx266_4
               have hw266_3 := hx266_3
               have hw266_2 := hx266_2
               have hw266_1 := hx266_1
               have hw266_0 := hx266_0
               obtain rfl : ad264 = ad266 := (by injection e266)
               replace hx266_0 := (HB.out.cell (World.block_lt_of_cell? w _ hx266_0)).trans hx266_0
               replace hx266_1 := (HB.out.cell (World.block_lt_of_cell? w _ hx266_1)).trans hx266_1
               replace hx266_2 := (HB.out.cell (World.block_lt_of_cell? w _ hx266_2)).trans hx266_2
               replace hx266_3 := (HB.out.cell (World.block_lt_of_cell? w _ hx266_3)).trans hx266_3
               replace hx266_4 := (HB.out.cell (World.block_lt_of_cell? w _ hx266_4)).trans hx266_4
               replace p266 := eq_true p266
               replace q266 := eq_true q266
               have p267 : 0 ≤ (x14_3 : Int) := of_decide_eq_true (by first | (with_reducible assumption) | assumption)
               have q267 : x14_3 < (l1.length : Int) := of_decide_eq_true (by first | (with_reducible assumption) | assumption)
               obtain ⟨ad267, e267, hx267_0, hx267_1, hx267_2, hx267_3, hx267_4⟩ := at_T35 HR1.out x14_3 p267 q267
               have hw267_4 := hx267_4
               have hw267_3 := hx267_3
               have hw267_2 := hx267_2
               have hw267_1 := hx267_1
               have hw267_0 := hx267_0
               obtain rfl : ad264 = ad267 := (by injection e267)
               replace hx267_0 := (HB.out.cell (World.block_lt_of_cell? w _ hx267_0)).trans hx267_0
               replace hx267_1 := (HB.out.cell (World.block_lt_of_cell? w _ hx267_1)).trans hx267_1
               replace hx267_2 := (HB.out.cell (World.block_lt_of_cell? w _ hx267_2)).trans hx267_2
               replace hx267_3 := (HB.out.cell (World.block_lt_of_cell? w _ hx267_3)).trans hx267_3
               replace hx267_4 := (HB.out.cell (World.block_lt_of_cell? w _ hx267_4)).trans hx267_4
               replace p267 := eq_true p267
               replace q267 := eq_true q267
               obtain ⟨Ao25, co25, eo25⟩ := Kd.R_slice HO_11.out
               (first | subst eo25 | (injection eo25 with f1_ f2_ f3_; have f4_ := f1_.symm; have f5_ := f3_.symm; clear f1_ f2_ f3_; subst f4_; subst f5_))
               have p268 : 0 ≤ (((rd_T35 l1 x14_3).f1) : Int) := of_decide_eq_true (by first | (with_reducible assumption) | assumption)
               have q268 : ((rd_T35 l1 x14_3).f1) < (x11_3.length : Int) := of_decide_eq_true (by first | (with_reducible assumption) | assumption)
               obtain ⟨ad268, e268, hx268_0⟩ := Kd.at_int (Kd.R_reads' HO_11.out).2.2 ((rd_T35 l1 x14_3).f1) p268 q268
               cases e268
               replace p268 := eq_true p268
               replace q268 := eq_true q268
               have p269 : 0 ≤ (x14_3 : Int) := of_decide_eq_true (by first | (with_reducible assumption) | assumption)
               have q269 : x14_3 < (l2.length : Int) := of_decide_eq_true (by first | (with_reducible assumption) | assumption)
               obtain ⟨ad269, e269, hx269_0⟩ := Kd.at_int HR2.out x14_3 p269 q269
               have hw269_0 := hx269_0
               cases e269
               replace hx269_0 := (HB.out.cell (World.block_lt_of_cell? w _ hx269_0)).trans hx269_0
               replace p269 := eq_true p269
               replace q269 := eq_true q269
               have p23 : 0 ≤ (((rd_T35 l1 x14_3).f1) : Int) := of_decide_eq_true (by first | (with_reducible assumption) | assumption)
               have q23 : (((rd_T35 l1 x14_3).f1) : Int) < ((x11_3.length : Int) : Int) := of_decide_eq_true (by first | (with_reducible assumption) | assumption)
               obtain ⟨go23, co23, eo23, gb23, gl23, cl23, HG23⟩ := Kd.R_form HO_11.out (by omega)
               (first | cases eo23 | (injection eo23 with ea_ en_ ec_; (first | subst ea_ | (injection ea_ with ea_; subst ea_)); subst ec_; clear en_))
               have GB23 := Aside0.mk gb23
               have GG23 := Aside0.mk HG23
               clear gb23 gl23 HG23
               (first | simp only [add_plain] at hx268_0 | skip)
               obtain ⟨hx23_0, hf23_0⟩ := Kd.R_celln 0 HO_11.out (((rd_T35 l1 x14_3).f1) : Int) p23 q23
               replace p23 := eq_true p23
               replace q23 := eq_true q23
               have HP26 := Kd.R_putn HO_11.out (((rd_T35 l1 x14_3).f1) : Int) ji22
               rw [← Ny270.out] at HP26
               have HQ26 := Aside0.mk HP26
               clear HP26
               refine start_ (n := 21) (S := fun w' => w'.cell? (ad264.add ((x14_3).toNat * 5)) = some (.int .i64 ((rd_T35 l1 x14_3).f0)) ∧ w'.cell? ⟨(ad264.add ((x14_3).toNat * 5)).block, (ad264.add ((x14_3).toNat * 5)).off + 1, none⟩ = some (.int .i64 ((rd_T35 l1 x14_3).f1)) ∧ w'.cell? ⟨(ad264.add ((x14_3).toNat * 5)).block, (ad264.add ((x14_3).toNat * 5)).off + 2, none⟩ = some (.int .i64 ((rd_T35 l1 x14_3).f2)) ∧ w'.cell? ⟨(ad264.add ((x14_3).toNat * 5)).block, (ad264.add ((x14_3).toNat * 5)).off + 3, none⟩ = some (.int .i64 ((rd_T35 l1 x14_3).f3)) ∧ w'.cell? ⟨(ad264.add ((x14_3).toNat * 5)).block, (ad264.add ((x14_3).toNat * 5)).off + 4, none⟩ = some (.int .i64 ((rd_T35 l1 x14_3).f4)) ∧ w'.cell? (ad264.add ((x14_3).toNat * 5)) = some (.int .i64 ((rd_T35 l1 x14_3).f0)) ∧ w'.cell? ⟨(ad264.add ((x14_3).toNat * 5)).block, (ad264.add ((x14_3).toNat * 5)).off + 1, none⟩ = some (.int .i64 ((rd_T35 l1 x14_3).f1)) ∧ w'.cell? ⟨(ad264.add ((x14_3).toNat * 5)).block, (ad264.add ((x14_3).toNat * 5)).off + 2, none⟩ = some (.int .i64 ((rd_T35 l1 x14_3).f2)) ∧ w'.cell? ⟨(ad264.add ((x14_3).toNat * 5)).block, (ad264.add ((x14_3).toNat * 5)).off + 3, none⟩ = some (.int .i64 ((rd_T35 l1 x14_3).f3)) ∧ w'.cell? ⟨(ad264.add ((x14_3).toNat * 5)).block, (ad264.add ((x14_3).toNat * 5)).off + 4, none⟩ = some (.int .i64 ((rd_T35 l1 x14_3).f4)) ∧ w'.cell? ⟨go23, (((rd_T35 l1 x14_3).f1)).toNat, none⟩ = some (.int .i64 (rd x11_3 ((rd_T35 l1 x14_3).f1))) ∧ w'.cell? (ad269.add (x14_3).toNat) = some (.int .i64 (rd l2 x14_3))) (ds := [20]) #[false, false, false, false, false, false, false, false, false, false, false, false, false, false, false, false, false, false, false, false, false] (by kernel_rfl) rfl rfl ⟨((HB.out.cell (World.block_lt_of_cell? w _ hw266_0)).trans hw266_0), ((HB.out.cell (World.block_lt_of_cell? w _ hw266_1)).trans hw266_1), ((HB.out.cell (World.block_lt_of_cell? w _ hw266_2)).trans hw266_2), ((HB.out.cell (World.block_lt_of_cell? w _ hw266_3)).trans hw266_3), ((HB.out.cell (World.block_lt_of_cell? w _ hw266_4)).trans hw266_4), ((HB.out.cell (World.block_lt_of_cell? w _ hw267_0)).trans hw267_0), ((HB.out.cell (World.block_lt_of_cell? w _ hw267_1)).trans hw267_1), ((HB.out.cell (World.block_lt_of_cell? w _ hw267_2)).trans hw267_2), ((HB.out.cell (World.block_lt_of_cell? w _ hw267_3)).trans hw267_3), ((HB.out.cell (World.block_lt_of_cell? w _ hw267_4)).trans hw267_4), hx268_0, ((HB.out.cell (World.block_lt_of_cell? w _ hw269_0)).trans hw269_0)⟩ (fun hHeld => ?_); refine with_tabW purflingref16_Least.tab15 purflingref16_Least.bits15 (fun HT_ HW_ => ?_)
               generalize wr.drew = w24 at HO_11 HB GG23 HQ26 hf23_0 hx23_0 hx266_0 hx266_1 hx266_2 hx266_3 hx266_4 hx267_0 hx267_1 hx267_2 hx267_3 hx267_4 hx268_0 hx269_0 hHeld ⊢
               refine pure_ (i := 0) (N := some 66) (v := ?_) (a' := ?_) #[true, false, false, false, false, false, false, false, false, false, false, false, false, false, false, false, false, false, false, false, false] rfl rfl (any_of HT_.out (by kernel_rfl)) (fun _ _ _ h => h) (Or.inl ⟨by rfl, ?_⟩) ?_ ?_
               rotate_left
               ·intro w'
                go_simp
                with_reducible rfl
               rotate_left
               ·simp only [Act.put, List.setIfInBounds_toArray, List.set_cons_zero, List.set_cons_succ, i64_w, i32_w]
                rfl
               refine pure_ (i := 1) (N := some 67) (v := ?_) (a' := ?_) #[true, true, false, false, false, false, false, false, false, false, false, false, false, false, false, false, false, false, false, false, false] rfl rfl (any_of HT_.out (by kernel_rfl)) (fun _ _ _ h => h) (Or.inl ⟨by rfl, ?_⟩) ?_ ?_
               rotate_left
               ·intro w'
                go_simp
                with_reducible rfl
               rotate_left
               ·simp only [Act.put, List.setIfInBounds_toArray, List.set_cons_zero, List.set_cons_succ, i64_w, i32_w]
                rfl
               refine pure_ (i := 2) (N := some 68) (v := ?_) (a' := ?_) #[true, true, true, false, false, false, false, false, false, false, false, false, false, false, false, false, false, false, false, false, false] rfl rfl (any_of HT_.out (by kernel_rfl)) (fun _ _ _ h => h) (Or.inl ⟨by rfl, ?_⟩) ?_ ?_
               rotate_left
               ·intro w'
                go_simp
                with_reducible rfl
               rotate_left
               ·simp only [Act.put, List.setIfInBounds_toArray, List.set_cons_zero, List.set_cons_succ, i64_w, i32_w]
                rfl
               refine pure_ (i := 3) (N := some 69) (v := ?_) (a' := ?_) #[true, true, true, true, false, false, false, false, false, false, false, false, false, false, false, false, false, false, false, false, false] rfl rfl (any_of HT_.out (by kernel_rfl)) (fun _ _ _ h => h) (Or.inl ⟨by rfl, ?_⟩) ?_ ?_
               rotate_left
               ·intro w'
                go_simp
                with_reducible rfl
               rotate_left
               ·simp only [Act.put, List.setIfInBounds_toArray, List.set_cons_zero, List.set_cons_succ, i64_w, i32_w]
                rfl
               refine pure_ (i := 4) (N := some 70) (v := ?_) (a' := ?_) #[true, true, true, true, true, false, false, false, false, false, false, false, false, false, false, false, false, false, false, false, false] rfl rfl (any_of HT_.out (by kernel_rfl)) (fun _ _ _ h => h) (Or.inl ⟨by rfl, ?_⟩) ?_ ?_
               rotate_left
               ·intro w'
                go_simp
                with_reducible rfl
               rotate_left
               ·simp only [Act.put, List.setIfInBounds_toArray, List.set_cons_zero, List.set_cons_succ, i64_w, i32_w]
                rfl
               refine pure_ (i := 6) (N := some 72) (v := ?_) (a' := ?_) #[true, true, true, true, true, false, true, false, false, false, false, false, false, false, false, false, false, false, false, false, false] rfl rfl (any_of HT_.out (by kernel_rfl)) (fun _ _ _ h => h) (Or.inl ⟨by rfl, ?_⟩) ?_ ?_
               rotate_left
               ·intro w'
                go_simp
                with_reducible rfl
               rotate_left
               ·simp only [Act.put, List.setIfInBounds_toArray, List.set_cons_zero, List.set_cons_succ, i64_w, i32_w]
                rfl
               refine pure_ (i := 7) (N := some 73) (v := ?_) (a' := ?_) #[true, true, true, true, true, false, true, true, false, false, false, false, false, false, false, false, false, false, false, false, false] rfl rfl (any_of HT_.out (by kernel_rfl)) (fun _ _ _ h => h) (Or.inl ⟨by rfl, ?_⟩) ?_ ?_
               rotate_left
               ·intro w'
                go_simp
                with_reducible rfl
               rotate_left
               ·simp only [Act.put, List.setIfInBounds_toArray, List.set_cons_zero, List.set_cons_succ, i64_w, i32_w]
                rfl
               refine pure_ (i := 8) (N := some 74) (v := ?_) (a' := ?_) #[true, true, true, true, true, false, true, true, true, false, false, false, false, false, false, false, false, false, false, false, false] rfl rfl (any_of HT_.out (by kernel_rfl)) (fun _ _ _ h => h) (Or.inl ⟨by rfl, ?_⟩) ?_ ?_
               rotate_left
               ·intro w'
                go_simp
                with_reducible rfl
               rotate_left
               ·simp only [Act.put, List.setIfInBounds_toArray, List.set_cons_zero, List.set_cons_succ, i64_w, i32_w]
                rfl
               refine pure_ (i := 9) (N := some 75) (v := ?_) (a' := ?_) #[true, true, true, true, true, false, true, true, true, true, false, false, false, false, false, false, false, false, false, false, false] rfl rfl (any_of HT_.out (by kernel_rfl)) (fun _ _ _ h => h) (Or.inl ⟨by rfl, ?_⟩) ?_ ?_
               rotate_left
               ·intro w'
                go_simp
                with_reducible rfl
               rotate_left
               ·simp only [Act.put, List.setIfInBounds_toArray, List.set_cons_zero, List.set_cons_succ, i64_w, i32_w]
                rfl
               refine pure_ (i := 10) (N := some 76) (v := ?_) (a' := ?_) #[true, true, true, true, true, false, true, true, true, true, true, false, false, false, false, false, false, false, false, false, false] rfl rfl (any_of HT_.out (by kernel_rfl)) (fun _ _ _ h => h) (Or.inl ⟨by rfl, ?_⟩) ?_ ?_
               rotate_left
               ·intro w'
                go_simp
                with_reducible rfl
               rotate_left
               ·simp only [Act.put, List.setIfInBounds_toArray, List.set_cons_zero, List.set_cons_succ, i64_w, i32_w]
                rfl
               refine pure_ (i := 14) (N := some 80) (v := ?_) (a' := ?_) #[true, true, true, true, true, false, true, true, true, true, true, false, false, false, true, false, false, false, false, false, false] rfl rfl (any_of HT_.out (by kernel_rfl)) (fun _ _ _ h => h) (Or.inl ⟨by rfl, ?_⟩) ?_ ?_
               rotate_left
               ·intro w'
                go_simp
                with_reducible rfl
               rotate_left
               ·simp only [Act.put, List.setIfInBounds_toArray, List.set_cons_zero, List.set_cons_succ, i64_w, i32_w]
                rfl
               refine pure_ (i := 15) (N := some 81) (v := ?_) (a' := ?_) #[true, true, true, true, true, false, true, true, true, true, true, false, false, false, true, true, false, false, false, false, false] rfl rfl (any_of HT_.out (by kernel_rfl)) (fun _ _ _ h => h) (Or.inl ⟨by rfl, ?_⟩) ?_ ?_
               rotate_left
               ·intro w'
                go_simp
                with_reducible rfl
               rotate_left
               ·simp only [Act.put, List.setIfInBounds_toArray, List.set_cons_zero, List.set_cons_succ, i64_w, i32_w]
                rfl
               refine pure_ (i := 16) (N := some 82) (v := ?_) (a' := ?_) #[true, true, true, true, true, false, true, true, true, true, true, false, false, false, true, true, true, false, false, false, false] rfl rfl (any_of HT_.out (by kernel_rfl)) (fun _ _ _ h => h) (Or.inl ⟨by rfl, ?_⟩) ?_ ?_
               rotate_left
               ·intro w'
                go_simp
                with_reducible rfl
               rotate_left
               ·simp only [Act.put, List.setIfInBounds_toArray, List.set_cons_zero, List.set_cons_succ, i64_w, i32_w]
                rfl
               refine take_ (i := 5) (N := some 71) (v := ?_) (a' := ?_) #[true, true, true, true, true, true, true, true, true, true, true, false, false, false, true, true, true, false, false, false, false] rfl rfl (take_ofW HT_.out HW_.out (by kernel_rfl)) (fun _ _ _ h => h) (Or.inl ⟨by rfl, ?_⟩) hHeld ?_ ?_
               rotate_left
               ·rintro w' ⟨s0, s1, s2, s3, s4, s5, s6, s7, s8, s9, s10, s11⟩
                go_simp
                with_reducible rfl
               rotate_left
               ·simp only [Act.put, List.setIfInBounds_toArray, List.set_cons_zero, List.set_cons_succ, i64_w, i32_w]
                rfl
               refine take_ (i := 11) (N := some 77) (v := ?_) (a' := ?_) #[true, true, true, true, true, true, true, true, true, true, true, true, false, false, true, true, true, false, false, false, false] rfl rfl (take_ofW HT_.out HW_.out (by kernel_rfl)) (fun _ _ _ h => h) (Or.inl ⟨by rfl, ?_⟩) hHeld ?_ ?_
               rotate_left
               ·rintro w' ⟨s0, s1, s2, s3, s4, s5, s6, s7, s8, s9, s10, s11⟩
                go_simp
                with_reducible rfl
               rotate_left
               ·simp only [Act.put, List.setIfInBounds_toArray, List.set_cons_zero, List.set_cons_succ, i64_w, i32_w]
                rfl
               refine pure_ (i := 12) (N := some 78) (v := ?_) (a' := ?_) #[true, true, true, true, true, true, true, true, true, true, true, true, true, false, true, true, true, false, false, false, false] rfl rfl (any_of HT_.out (by kernel_rfl)) (fun _ _ _ h => h) (Or.inl ⟨by rfl, ?_⟩) ?_ ?_
               rotate_left
               ·intro w'
                go_simp
                with_reducible rfl
               rotate_left
               ·simp only [Act.put, List.setIfInBounds_toArray, List.set_cons_zero, List.set_cons_succ, i64_w, i32_w]
                rfl
               refine take_ (i := 13) (N := some 79) (v := ?_) (a' := ?_) #[true, true, true, true, true, true, true, true, true, true, true, true, true, true, true, true, true, false, false, false, false] rfl rfl (take_ofW HT_.out HW_.out (by kernel_rfl)) (fun _ _ _ h => h) (Or.inl ⟨by rfl, ?_⟩) hHeld ?_ ?_
               rotate_left
               ·rintro w' ⟨s0, s1, s2, s3, s4, s5, s6, s7, s8, s9, s10, s11⟩
                go_simp
                with_reducible rfl
               rotate_left
               ·simp only [Act.put, List.setIfInBounds_toArray, List.set_cons_zero, List.set_cons_succ, i64_w, i32_w]
                rfl
               refine take_ (i := 17) (N := some 83) (v := ?_) (a' := ?_) #[true, true, true, true, true, true, true, true, true, true, true, true, true, true, true, true, true, true, false, false, false] rfl rfl (take_ofW HT_.out HW_.out (by kernel_rfl)) (fun _ _ _ h => h) (Or.inl ⟨by rfl, ?_⟩) hHeld ?_ ?_
               rotate_left
               ·rintro w' ⟨s0, s1, s2, s3, s4, s5, s6, s7, s8, s9, s10, s11⟩
                go_simp
                with_reducible rfl
               rotate_left
               ·simp only [Act.put, List.setIfInBounds_toArray, List.set_cons_zero, List.set_cons_succ, i64_w, i32_w]
                rfl
               refine pure_ (i := 18) (N := some 84) (v := ?_) (a' := ?_) #[true, true, true, true, true, true, true, true, true, true, true, true, true, true, true, true, true, true, true, false, false] rfl rfl (any_of HT_.out (by kernel_rfl)) (fun _ _ _ h => h) (Or.inl ⟨by rfl, ?_⟩) ?_ ?_
               rotate_left
               ·intro w'
                go_simp
                with_reducible rfl
               rotate_left
               ·simp only [Act.put, List.setIfInBounds_toArray, List.set_cons_zero, List.set_cons_succ, i64_w, i32_w]
                rfl
               refine pure_ (i := 19) (N := some 85) (v := ?_) (a' := ?_) #[true, true, true, true, true, true, true, true, true, true, true, true, true, true, true, true, true, true, true, true, false] rfl rfl (any_of HT_.out (by kernel_rfl)) (fun _ _ _ h => h) (Or.inl ⟨by rfl, ?_⟩) ?_ ?_
               rotate_left
               ·intro w'
                go_simp
                with_reducible rfl
               rotate_left
               ·simp only [Act.put, List.setIfInBounds_toArray, List.set_cons_zero, List.set_cons_succ, i64_w, i32_w]
                rfl
               refine last_ (i := 20) (N := none) #[true, true, true, true, true, true, true, true, true, true, true, true, true, true, true, true, true, true, true, true, true] rfl rfl (one_of HT_.out (by kernel_rfl)) (by decide) (fun K hK => ?_)
               refine skip_ (w1 := ?_) (by rfl) rfl ?_ ?_
               rotate_left
               ·go_simp
                rfl
               refine hK.out _ _ ?_
               clear hK K
               refine done_ (done_of HT_.out (by kernel_rfl)) ?_
               try go_wp2
               go_roundg k3
               case measure => have := HJ5.out; have := HK2.out; have := HK3.out; omega
               case rel => exact ⟨(y270), (ji17), (wrap64 (x14_3 + 1)), (by first | rfl | (simp; done) | (simp only [← hji17] <;> (first | rfl | simp)) | (simp [*]; done)), (by first | rfl | (simp; done) | (simp [*]; done)), H', ⟨by have := HJ5.out; have := HK2.out; have := HK3.out; omega⟩, ⟨by (with_reducible repeat (first | apply Kd.R_alloc | apply Kd.R_drewN | apply Kd.R_drew)); exact HQ26.out⟩, ⟨by repeat (first | (with_reducible first | exact HB.out | apply below_alloc | apply pw_below_drewN | apply below_drew1 | refine below_set ?_ GB23.out) | exact HB.out)⟩⟩
              ·rw [if_neg c21] at H
               exact absurd H (by simp)
             ·rw [if_neg c20] at H
              exact absurd H (by simp)
            ·rw [if_neg c19] at H
             exact absurd H (by simp)
           ·rw [if_neg c18] at H
            have c18b0 : (((rd_T35 l1 x14_3).f3) == 1) = false := beq_eq_false_iff_ne.mpr c18
            have c18b1 : (((rd_T35 l1 x14_3).f3) != 1) = true := bne_iff_ne.mpr c18
            have H' := Aside0.mk H
            clear H
            have p264 : 0 ≤ (x14_3 : Int) := of_decide_eq_true (by first | (with_reducible assumption) | assumption)
            have q264 : x14_3 < (l1.length : Int) := of_decide_eq_true (by first | (with_reducible assumption) | assumption)
            obtain ⟨ad264, e264, hx264_0, hx264_1, hx264_2, hx264_3, hx264_4⟩ := at_T35 HR1.out x14_3 p264 q264
            cases e264
            replace hx264_0 := (HB.out.cell (World.block_lt_of_cell? w _ hx264_0)).trans hx264_0
            replace hx264_1 := (HB.out.cell (World.block_lt_of_cell? w _ hx264_1)).trans hx264_1
            replace hx264_2 := (HB.out.cell (World.block_lt_of_cell? w _ hx264_2)).trans hx264_2
            replace hx264_3 := (HB.out.cell (World.block_lt_of_cell? w _ hx264_3)).trans hx264_3
            replace hx264_4 := (HB.out.cell (World.block_lt_of_cell? w _ hx264_4)).trans hx264_4
            replace p264 := eq_true p264
            replace q264 := eq_true q264
            have p265 : 0 ≤ (x14_3 : Int) := of_decide_eq_true (by first | (with_reducible assumption) | assumption)
            have q265 : x14_3 < (l1.length : Int) := of_decide_eq_true (by first | (with_reducible assumption) | assumption)
            obtain ⟨ad265, e265, hx265_0, hx265_1, hx265_2, hx265_3, hx265_4⟩ := at_T35 HR1.out x14_3 p265 q265
            obtain rfl : ad264 = ad265 := (by injection e265)
            replace hx265_0 := (HB.out.cell (World.block_lt_of_cell? w _ hx265_0)).trans hx265_0
            replace hx265_1 := (HB.out.cell (World.block_lt_of_cell? w _ hx265_1)).trans hx265_1
            replace hx265_2 := (HB.out.cell (World.block_lt_of_cell? w _ hx265_2)).trans hx265_2
            replace hx265_3 := (HB.out.cell (World.block_lt_of_cell? w _ hx265_3)).trans hx265_3
            replace hx265_4 := (HB.out.cell (World.block_lt_of_cell? w _ hx265_4)).trans hx265_4
            replace p265 := eq_true p265
            replace q265 := eq_true q265
            go_wp2
            go_roundg k3
            case measure => have := HJ5.out; have := HK2.out; have := HK3.out; omega
            case rel => exact ⟨(x11_3), (ji17), (wrap64 (x14_3 + 1)), (by first | rfl | (simp; done) | (simp only [← hji17] <;> (first | rfl | simp)) | (simp [*]; done)), (by first | rfl | (simp; done) | (simp [*]; done)), H', ⟨by have := HJ5.out; have := HK2.out; have := HK3.out; omega⟩, ⟨by (with_reducible repeat (first | apply Kd.R_alloc | apply Kd.R_drewN | apply Kd.R_drew)); exact HO_11.out⟩, ⟨by repeat (first | (with_reducible first | exact HB.out | apply below_alloc | apply pw_below_drewN | apply below_drew1) | exact HB.out)⟩⟩
          ·rw [if_neg c16] at H
           exact absurd H (by simp)
         ·rw [if_neg c15] at H
          have c15b0 : decide (x14_3 < (l1.length : Int)) = false := decide_eq_false c15
          clear c15
          have H' := Aside0.mk H
          clear H
          go_wp2
          go_loopg [15] k3 (fun kq v15 w' => ∃ (x11_4 : List Int) (x15_4 : Int), v15 = .int .i64 x15_4 ∧ Aside0 (purflingref16_Least.l2 kq l1 l2 a3 x11_4 x13_3 x15_4 = some (r1, r2)) ∧ Aside0 (kq ≤ k3) ∧ Aside0 (Kd.R (Kd.int .i64) 2 w' w.heap.size (fun _ => True) u11 x11_4) ∧ Aside0 (Below w.heap.size w w'))
          case atStart => exact ⟨(x11_3), (2), (by first | rfl | (simp; done) | (simp [*]; done)), H', ⟨Nat.le_refl _⟩, ⟨by (with_reducible repeat (first | apply Kd.R_alloc | apply Kd.R_drewN | apply Kd.R_drew)); exact HO_11.out⟩, ⟨by repeat (first | (with_reducible first | exact HB.out | apply below_alloc | apply pw_below_drewN | apply below_drew1) | exact HB.out)⟩⟩
          case round =>
           clear H'
           try clear c1
           try clear c2
           try clear p2
           try clear q2
           try clear hx2
           try clear p6
           try clear c8
           try clear c9
           try clear c10
           try clear c10b0
           try clear c11
           try clear c11b0
           try clear c13
           try clear c15
           try clear c15b0
           try clear c16
           try clear c16b0
           try clear c18
           try clear c18b0
           try clear c18b1
           try clear c19
           try clear c19b0
           try clear c20
           try clear c20b0
           try clear c21
           try clear c21b0
           try clear p23
           try clear q23
           try clear hx23
           try clear hf23
           try clear p26
           try clear q26
           try clear hx26
           try clear hx23_0
           try clear hx260_0
           try clear hx264_0
           try clear hx264_1
           try clear hx264_2
           try clear hx264_3
           try clear hx264_4
           try clear hx265_0
           try clear hx265_1
           try clear hx265_2
           try clear hx265_3
           try clear hx265_4
           try clear hx266_0
           try clear hx266_1
           try clear hx266_2
           try clear hx266_3
           try clear hx266_4
           try clear hx267_0
           try clear hx267_1
           try clear hx267_2
           try clear hx267_3
           try clear hx267_4
           try clear hx268_0
           try clear hx269_0
           try clear p2
           try clear p23
           try clear p260
           try clear p264
           try clear p265
           try clear p266
           try clear p267
           try clear p268
           try clear p269
           try clear p6
           try clear q2
           try clear q23
           try clear q260
           try clear q264
           try clear q265
           try clear q266
           try clear q267
           try clear q268
           try clear q269
           obtain ⟨x11_4, x15_4, rfl, HA, HK4, HO_11, HB⟩ := hrel
           cases gk with
           | zero => exact absurd HA.out (by simp [purflingref16_Least.l2])
           | succ k4 =>
            have H := HA.out
            clear HA
            simp only [purflingref16_Least.l2] at H
            by_cases c27 : x15_4 ≤ x13_3
            ·rw [if_pos c27] at H
             have c27b0 : decide (x15_4 ≤ x13_3) = true := decide_eq_true c27
             clear c27
             have H' := Aside0.mk H
             clear H
             go_wp2
             go_loopg [16] k4 (fun kq v16 w' => ∃ (x11_5 : List Int) (x16_5 : Int), v16 = .int .i64 x16_5 ∧ Aside0 (purflingref16_Least.l3 kq l1 l2 a3 x11_5 x13_3 x15_4 x16_5 = some (r1, r2)) ∧ Aside0 (kq ≤ k4) ∧ Aside0 (Kd.R (Kd.int .i64) 2 w' w.heap.size (fun _ => True) u11 x11_5) ∧ Aside0 (Below w.heap.size w w'))
             case atStart => exact ⟨(x11_4), (0), (by first | rfl | (simp; done) | (simp [*]; done)), H', ⟨Nat.le_refl _⟩, ⟨by (with_reducible repeat (first | apply Kd.R_alloc | apply Kd.R_drewN | apply Kd.R_drew)); exact HO_11.out⟩, ⟨by repeat (first | (with_reducible first | exact HB.out | apply below_alloc | apply pw_below_drewN | apply below_drew1) | exact HB.out)⟩⟩
             case round =>
              clear H'
              try clear c1
              try clear c2
              try clear p2
              try clear q2
              try clear hx2
              try clear p6
              try clear c8
              try clear c9
              try clear c10
              try clear c10b0
              try clear c11
              try clear c11b0
              try clear c13
              try clear c15
              try clear c15b0
              try clear c16
              try clear c16b0
              try clear c18
              try clear c18b0
              try clear c18b1
              try clear c19
              try clear c19b0
              try clear c20
              try clear c20b0
              try clear c21
              try clear c21b0
              try clear p23
              try clear q23
              try clear hx23
              try clear hf23
              try clear p26
              try clear q26
              try clear hx26
              try clear c27
              try clear c27b0
              try clear hx23_0
              try clear hx260_0
              try clear hx264_0
              try clear hx264_1
              try clear hx264_2
              try clear hx264_3
              try clear hx264_4
              try clear hx265_0
              try clear hx265_1
              try clear hx265_2
              try clear hx265_3
              try clear hx265_4
              try clear hx266_0
              try clear hx266_1
              try clear hx266_2
              try clear hx266_3
              try clear hx266_4
              try clear hx267_0
              try clear hx267_1
              try clear hx267_2
              try clear hx267_3
              try clear hx267_4
              try clear hx268_0
              try clear hx269_0
              try clear p2
              try clear p23
              try clear p26
              try clear p260
              try clear p264
              try clear p265
              try clear p266
              try clear p267
              try clear p268
              try clear p269
              try clear p6
              try clear q2
              try clear q23
              try clear q26
              try clear q260
              try clear q264
              try clear q265
              try clear q266
              try clear q267
              try clear q268
              try clear q269
              obtain ⟨x11_5, x16_5, rfl, HA, HK5, HO_11, HB⟩ := hrel
              cases gk with
              | zero => exact absurd HA.out (by simp [purflingref16_Least.l3])
              | succ k5 =>
               have H := HA.out
               clear HA
               simp only [purflingref16_Least.l3] at H
               by_cases c28 : x16_5 < (l1.length : Int)
               ·rw [if_pos c28] at H
                have c28b0 : decide (x16_5 < (l1.length : Int)) = true := decide_eq_true c28
                clear c28
                by_cases c29 : 0 ≤ x16_5
                ·rw [if_pos c29] at H
                 have c29b0 : decide (0 ≤ x16_5) = true := decide_eq_true c29
                 clear c29
                 by_cases c30 : ((rd_T35 l1 x16_5).f3) = x15_4
                 ·rw [if_pos c30] at H
                  have c30b0 : (((rd_T35 l1 x16_5).f3) == x15_4) = true := beq_iff_eq.mpr c30
                  have c30b1 : (((rd_T35 l1 x16_5).f3) != x15_4) = false := bne_eq_false_iff_eq.mpr c30
                  clear c30
                  by_cases c31 : 0 ≤ ((rd_T35 l1 x16_5).f1)
                  ·rw [if_pos c31] at H
                   have c31b0 := eq_true c31
                   have c31b1 : decide (0 ≤ ((rd_T35 l1 x16_5).f1)) = true := decide_eq_true c31
                   clear c31
                   by_cases c32 : ((rd_T35 l1 x16_5).f1) ≤ (wrap64 (((rd_T35 l1 x16_5).f1) + x15_4))
                   ·rw [if_pos c32] at H
                    have c32b0 := eq_true c32
                    have c32b1 : decide (((rd_T35 l1 x16_5).f1) ≤ (wrap64 (((rd_T35 l1 x16_5).f1) + x15_4))) = true := decide_eq_true c32
                    by_cases c33 : (wrap64 (((rd_T35 l1 x16_5).f1) + x15_4)) ≤ (x11_5.length : Int)
                    ·rw [if_pos c33] at H
                     have c33b0 := eq_true c33
                     have c33b1 : decide ((wrap64 (((rd_T35 l1 x16_5).f1) + x15_4)) ≤ (x11_5.length : Int)) = true := decide_eq_true c33
                     obtain ⟨y274, hy274⟩ : ∃ y_ : List Int, y_ = ((x11_5.take ((wrap64 (((rd_T35 l1 x16_5).f1) + x15_4)) : Int).toNat).drop (((rd_T35 l1 x16_5).f1) : Int).toNat) := ⟨_, rfl⟩
                     replace H : (if ([] : List Int).length + y274.length < 17592186044416 then ((some (([] : List Int) ++ y274 : List Int)).bind fun y278 => (if x16_5 < (l2.length : Int) then ((purflingref14_Part.f k5 (rd l2 x16_5) a3 x15_4).bind fun t282 => ((purflingref14_Over.f k5 t282 y278 y278).bind fun bt283 => (if bt283.2 = 0 then (purflingref16_Least.l4 k5 l1 l2 a3 x11_5 x13_3 x15_4 x16_5 bt283.1 0) else (some (([] : List Int), 160))))) else (none))) else (none)) = some (r1, r2) := by first | (rw [hy274]; with_reducible exact H) | (have H2_ := (Option.bind_some _ _).symm.trans H; rw [hy274]; with_reducible exact H2_) | (have H2_ := (Option.bind_some _ _).symm.trans H; with_reducible exact H2_) | with_reducible exact H | (rw [hy274]; exact H) | exact H
                     have Ny274 := Aside0.mk hy274
                     clear hy274
                     by_cases c34 : ([] : List Int).length + y274.length < 17592186044416
                     ·rw [if_pos c34] at H
                      have LMc34 := Aside0.mk c34
                      clear c34
                      obtain ⟨y278, hy278⟩ : ∃ y_ : List Int, y_ = (([] : List Int) ++ y274) := ⟨_, rfl⟩
                      replace H : (if x16_5 < (l2.length : Int) then ((purflingref14_Part.f k5 (rd l2 x16_5) a3 x15_4).bind fun t282 => ((purflingref14_Over.f k5 t282 y278 y278).bind fun bt283 => (if bt283.2 = 0 then (purflingref16_Least.l4 k5 l1 l2 a3 x11_5 x13_3 x15_4 x16_5 bt283.1 0) else (some (([] : List Int), 160))))) else (none)) = some (r1, r2) := by first | (rw [hy278]; with_reducible exact H) | (have H2_ := (Option.bind_some _ _).symm.trans H; rw [hy278]; with_reducible exact H2_) | (have H2_ := (Option.bind_some _ _).symm.trans H; with_reducible exact H2_) | with_reducible exact H | (rw [hy278]; exact H) | exact H
                      have Ny278 := Aside0.mk hy278
                      clear hy278
                      by_cases c35 : x16_5 < (l2.length : Int)
                      ·rw [if_pos c35] at H
                       have c35b0 : decide (x16_5 < (l2.length : Int)) = true := decide_eq_true c35
                       clear c35
                       replace H := Option.bind_eq_some_iff.mp H
                       obtain ⟨t282, A360, H⟩ := H
                       replace H : ((purflingref14_Over.f k5 t282 y278 y278).bind fun bt283 => (if bt283.2 = 0 then (purflingref16_Least.l4 k5 l1 l2 a3 x11_5 x13_3 x15_4 x16_5 bt283.1 0) else (some (([] : List Int), 160)))) = some (r1, r2) := H
                       have A36 := Aside0.mk A360
                       clear A360
                       replace H := Option.bind_eq_some_iff.mp H
                       obtain ⟨⟨t283, t284⟩, A370, H⟩ := H
                       replace H : (if t284 = 0 then (purflingref16_Least.l4 k5 l1 l2 a3 x11_5 x13_3 x15_4 x16_5 t283 0) else (some (([] : List Int), 160))) = some (r1, r2) := H
                       have A37 := Aside0.mk A370
                       clear A370
                       by_cases c38 : t284 = 0
                       ·rw [if_pos c38] at H
                        have c38b0 : (t284 == 0) = true := beq_iff_eq.mpr c38
                        have c38b1 : (t284 != 0) = false := bne_eq_false_iff_eq.mpr c38
                        clear c38
                        have H' := Aside0.mk H
                        clear H
                        have p271 : 0 ≤ (x16_5 : Int) := of_decide_eq_true (by first | (with_reducible assumption) | assumption)
                        have q271 : x16_5 < (l1.length : Int) := of_decide_eq_true (by first | (with_reducible assumption) | assumption)
                        obtain ⟨ad271, e271, hx271_0, hx271_1, hx271_2, hx271_3, hx271_4⟩ := at_T35 HR1.out x16_5 p271 q271
                        cases e271
                        replace hx271_0 := (HB.out.cell (World.block_lt_of_cell? w _ hx271_0)).trans hx271_0
                        replace hx271_1 := (HB.out.cell (World.block_lt_of_cell? w _ hx271_1)).trans hx271_1
                        replace hx271_2 := (HB.out.cell (World.block_lt_of_cell? w _ hx271_2)).trans hx271_2
                        replace hx271_3 := (HB.out.cell (World.block_lt_of_cell? w _ hx271_3)).trans hx271_3
                        replace hx271_4 := (HB.out.cell (World.block_lt_of_cell? w _ hx271_4)).trans hx271_4
                        replace p271 := eq_true p271
                        replace q271 := eq_true q271
                        try go_wp2
                        have n0_ := Aside0.mk (Kd.R_drew HO_11.out)
                        have n1_ := Aside0.mk (below_drew1 HB.out)
                        clear HO_11
                        clear HB
                        have HO_11 := n0_
                        have HB := n1_
                        clear n0_ n1_
                        have p272 : 0 ≤ (x16_5 : Int) := of_decide_eq_true (by first | (with_reducible assumption) | assumption)
                        have q272 : x16_5 < (l1.length : Int) := of_decide_eq_true (by first | (with_reducible assumption) | assumption)
                        obtain ⟨ad272, e272, hx272_0, hx272_1, hx272_2, hx272_3, hx272_4⟩ := at_T35 HR1.out x16_5 p272 q272
                        have hw272_4 := hx272_4
                        have hw272_3 := hx272_3
                        have hw272_2 := hx272_2
                        have hw272_1 := hx272_1
                        have hw272_0 := hx272_0
                        obtain rfl : ad271 = ad272 := (by injection e272)
                        replace hx272_0 := (HB.out.cell (World.block_lt_of_cell? w _ hx272_0)).trans hx272_0
                        replace hx272_1 := (HB.out.cell (World.block_lt_of_cell? w _ hx272_1)).trans hx272_1
                        replace hx272_2 := (HB.out.cell (World.block_lt_of_cell? w _ hx272_2)).trans hx272_2
                        replace hx272_3 := (HB.out.cell (World.block_lt_of_cell? w _ hx272_3)).trans hx272_3
                        replace hx272_4 := (HB.out.cell (World.block_lt_of_cell? w _ hx272_4)).trans hx272_4
                        replace p272 := eq_true p272
                        replace q272 := eq_true q272
                        have p273 : 0 ≤ (x16_5 : Int) := of_decide_eq_true (by first | (with_reducible assumption) | assumption)
                        have q273 : x16_5 < (l1.length : Int) := of_decide_eq_true (by first | (with_reducible assumption) | assumption)
                        obtain ⟨ad273, e273, hx273_0, hx273_1, hx273_2, hx273_3, hx273_4⟩ := at_T35 HR1.out x16_5 p273 q273
                        have hw273_4 := hx273_4
                        have hw273_3 := hx273_3
                        have hw273_2 := hx273_2
                        have hw273_1 := hx273_1
                        have hw273_0 := hx273_0
                        obtain rfl : ad271 = ad273 := (by injection e273)
                        replace hx273_0 := (HB.out.cell (World.block_lt_of_cell? w _ hx273_0)).trans hx273_0
                        replace hx273_1 := (HB.out.cell (World.block_lt_of_cell? w _ hx273_1)).trans hx273_1
                        replace hx273_2 := (HB.out.cell (World.block_lt_of_cell? w _ hx273_2)).trans hx273_2
                        replace hx273_3 := (HB.out.cell (World.block_lt_of_cell? w _ hx273_3)).trans hx273_3
                        replace hx273_4 := (HB.out.cell (World.block_lt_of_cell? w _ hx273_4)).trans hx273_4
                        replace p273 := eq_true p273
                        replace q273 := eq_true q273
                        obtain ⟨Ao41, co41, eo41⟩ := Kd.R_slice HO_11.out
                        (first | subst eo41 | (injection eo41 with f1_ f2_ f3_; have f4_ := f1_.symm; have f5_ := f3_.symm; clear f1_ f2_ f3_; subst f4_; subst f5_))
                        have q40 : ((wrap64 (((rd_T35 l1 x16_5).f1) + x15_4)) : Int) ≤ ((x11_5.length : Int) : Int) := of_decide_eq_true (by first | (with_reducible assumption) | assumption)
                        obtain ⟨i040, hi040, _, hsz40, _⟩ := info_parts info2
                        have hroom40 : x11_5.length ≤ co41 := (Kd.R_reads' HO_11.out).2.1
                        have hC40 : Kd.C (Kd.int .i64) _ Ao41 x11_5.length x11_5 := (Kd.R_reads' HO_11.out).2.2
                        have ql40 : (((rd_T35 l1 x16_5).f1) : Int) ≤ ((wrap64 (((rd_T35 l1 x16_5).f1) + x15_4)) : Int) := of_decide_eq_true (by first | (with_reducible assumption) | assumption)
                        have q040 : (0 : Int) ≤ (((rd_T35 l1 x16_5).f1) : Int) := of_decide_eq_true (by first | (with_reducible assumption) | assumption)
                        have hcut40 := cut_mid (P := Try.prog) 22 2 .i64 .i64 Try.underlying22 hi040 1 hsz40 Ao41 x11_5.length co41 ((rd_T35 l1 x16_5).f1) (wrap64 (((rd_T35 l1 x16_5).f1) + x15_4)) q040 ql40 q40 hroom40
                        have hr40 := Kd.C_mid (lo := (((rd_T35 l1 x16_5).f1) : Int).toNat) (hi := ((wrap64 (((rd_T35 l1 x16_5).f1) + x15_4)) : Int).toNat) (c := co41) hC40 (by omega) (by omega) hroom40
                        obtain ⟨A40, hA40⟩ : ∃ A1, A1 = (if co41 = (((rd_T35 l1 x16_5).f1) : Int).toNat then Ao41 else (Ao41 : Option Addr).map (·.add ((((rd_T35 l1 x16_5).f1) : Int).toNat * 1))) := ⟨_, rfl⟩
                        obtain ⟨c40, hc40⟩ : ∃ c1, c1 = co41 - (((rd_T35 l1 x16_5).f1) : Int).toNat := ⟨_, rfl⟩
                        have hy40 : y274.length = ((wrap64 (((rd_T35 l1 x16_5).f1) + x15_4)) : Int).toNat - (((rd_T35 l1 x16_5).f1) : Int).toNat := (by rw [Ny274.out, List.length_drop, List.length_take] <;> omega)
                        rw [show ((x11_5).take ((wrap64 (((rd_T35 l1 x16_5).f1) + x15_4)) : Int).toNat).drop (((rd_T35 l1 x16_5).f1) : Int).toNat = y274 from Ny274.out.symm] at hr40
                        replace hr40 : Kd.C (Kd.int .i64) _ A40 y274.length y274 := (by rw [hA40]; exact hr40)
                        rw [← hy40, ← hA40, ← hc40] at hcut40
                        have HR277 := Aside0.mk hr40
                        have HC277 := Aside0.mk (show y274.length ≤ c40 from by rw [hy40, hc40]; exact Nat.sub_le_sub_right (Nat.le_trans (by omega) hroom40) _)
                        clear hr40 hC40 hroom40 hi040 hsz40 hc40
                        have KY40 := Aside0.mk hy40
                        have KA40 := Aside0.mk hA40
                        clear hy40 hA40
                        have KL40 := Aside0.mk (show ((wrap64 (((rd_T35 l1 x16_5).f1) + x15_4)) : Int).toNat ≤ x11_5.length from by omega)
                        have KM40 := Aside0.mk (show (((rd_T35 l1 x16_5).f1) : Int).toNat ≤ ((wrap64 (((rd_T35 l1 x16_5).f1) + x15_4)) : Int).toNat from by omega)
                        replace q40 := eq_true q40
                        refine start_ (n := 17) (S := fun w' => w'.cell? (ad271.add ((x16_5).toNat * 5)) = some (.int .i64 ((rd_T35 l1 x16_5).f0)) ∧ w'.cell? ⟨(ad271.add ((x16_5).toNat * 5)).block, (ad271.add ((x16_5).toNat * 5)).off + 1, none⟩ = some (.int .i64 ((rd_T35 l1 x16_5).f1)) ∧ w'.cell? ⟨(ad271.add ((x16_5).toNat * 5)).block, (ad271.add ((x16_5).toNat * 5)).off + 2, none⟩ = some (.int .i64 ((rd_T35 l1 x16_5).f2)) ∧ w'.cell? ⟨(ad271.add ((x16_5).toNat * 5)).block, (ad271.add ((x16_5).toNat * 5)).off + 3, none⟩ = some (.int .i64 ((rd_T35 l1 x16_5).f3)) ∧ w'.cell? ⟨(ad271.add ((x16_5).toNat * 5)).block, (ad271.add ((x16_5).toNat * 5)).off + 4, none⟩ = some (.int .i64 ((rd_T35 l1 x16_5).f4)) ∧ w'.cell? (ad271.add ((x16_5).toNat * 5)) = some (.int .i64 ((rd_T35 l1 x16_5).f0)) ∧ w'.cell? ⟨(ad271.add ((x16_5).toNat * 5)).block, (ad271.add ((x16_5).toNat * 5)).off + 1, none⟩ = some (.int .i64 ((rd_T35 l1 x16_5).f1)) ∧ w'.cell? ⟨(ad271.add ((x16_5).toNat * 5)).block, (ad271.add ((x16_5).toNat * 5)).off + 2, none⟩ = some (.int .i64 ((rd_T35 l1 x16_5).f2)) ∧ w'.cell? ⟨(ad271.add ((x16_5).toNat * 5)).block, (ad271.add ((x16_5).toNat * 5)).off + 3, none⟩ = some (.int .i64 ((rd_T35 l1 x16_5).f3)) ∧ w'.cell? ⟨(ad271.add ((x16_5).toNat * 5)).block, (ad271.add ((x16_5).toNat * 5)).off + 4, none⟩ = some (.int .i64 ((rd_T35 l1 x16_5).f4))) (ds := []) #[false, false, false, false, false, false, false, false, false, false, false, false, false, false, false, false, false] (by kernel_rfl) rfl rfl ⟨((HB.out.cell (World.block_lt_of_cell? w _ hw272_0)).trans hw272_0), ((HB.out.cell (World.block_lt_of_cell? w _ hw272_1)).trans hw272_1), ((HB.out.cell (World.block_lt_of_cell? w _ hw272_2)).trans hw272_2), ((HB.out.cell (World.block_lt_of_cell? w _ hw272_3)).trans hw272_3), ((HB.out.cell (World.block_lt_of_cell? w _ hw272_4)).trans hw272_4), ((HB.out.cell (World.block_lt_of_cell? w _ hw273_0)).trans hw273_0), ((HB.out.cell (World.block_lt_of_cell? w _ hw273_1)).trans hw273_1), ((HB.out.cell (World.block_lt_of_cell? w _ hw273_2)).trans hw273_2), ((HB.out.cell (World.block_lt_of_cell? w _ hw273_3)).trans hw273_3), ((HB.out.cell (World.block_lt_of_cell? w _ hw273_4)).trans hw273_4)⟩ (fun hHeld => ?_); refine with_tabW purflingref16_Least.tab24 purflingref16_Least.bits24 (fun HT_ HW_ => ?_)
                        generalize wr.drew = w39 at HO_11 HB HR277 hx272_0 hx272_1 hx272_2 hx272_3 hx272_4 hx273_0 hx273_1 hx273_2 hx273_3 hx273_4 hHeld ⊢
                        refine pure_ (i := 0) (N := some 104) (v := ?_) (a' := ?_) #[true, false, false, false, false, false, false, false, false, false, false, false, false, false, false, false, false] rfl rfl (any_of HT_.out (by kernel_rfl)) (fun _ _ _ h => h) (Or.inl ⟨by rfl, ?_⟩) ?_ ?_
                        rotate_left
                        ·intro w'
                         go_simp
                         with_reducible rfl
                        rotate_left
                        ·simp only [Act.put, List.setIfInBounds_toArray, List.set_cons_zero, List.set_cons_succ, i64_w, i32_w]
                         rfl
                        refine pure_ (i := 1) (N := some 105) (v := ?_) (a' := ?_) #[true, true, false, false, false, false, false, false, false, false, false, false, false, false, false, false, false] rfl rfl (any_of HT_.out (by kernel_rfl)) (fun _ _ _ h => h) (Or.inl ⟨by rfl, ?_⟩) ?_ ?_
                        rotate_left
                        ·intro w'
                         go_simp
                         with_reducible rfl
                        rotate_left
                        ·simp only [Act.put, List.setIfInBounds_toArray, List.set_cons_zero, List.set_cons_succ, i64_w, i32_w]
                         rfl
                        refine pure_ (i := 2) (N := some 106) (v := ?_) (a' := ?_) #[true, true, true, false, false, false, false, false, false, false, false, false, false, false, false, false, false] rfl rfl (any_of HT_.out (by kernel_rfl)) (fun _ _ _ h => h) (Or.inl ⟨by rfl, ?_⟩) ?_ ?_
                        rotate_left
                        ·intro w'
                         go_simp
                         with_reducible rfl
                        rotate_left
                        ·simp only [Act.put, List.setIfInBounds_toArray, List.set_cons_zero, List.set_cons_succ, i64_w, i32_w]
                         rfl
                        refine pure_ (i := 3) (N := some 107) (v := ?_) (a' := ?_) #[true, true, true, true, false, false, false, false, false, false, false, false, false, false, false, false, false] rfl rfl (any_of HT_.out (by kernel_rfl)) (fun _ _ _ h => h) (Or.inl ⟨by rfl, ?_⟩) ?_ ?_
                        rotate_left
                        ·intro w'
                         go_simp
                         with_reducible rfl
                        rotate_left
                        ·simp only [Act.put, List.setIfInBounds_toArray, List.set_cons_zero, List.set_cons_succ, i64_w, i32_w]
                         rfl
                        refine pure_ (i := 4) (N := some 108) (v := ?_) (a' := ?_) #[true, true, true, true, true, false, false, false, false, false, false, false, false, false, false, false, false] rfl rfl (any_of HT_.out (by kernel_rfl)) (fun _ _ _ h => h) (Or.inl ⟨by rfl, ?_⟩) ?_ ?_
                        rotate_left
                        ·intro w'
                         go_simp
                         with_reducible rfl
                        rotate_left
                        ·simp only [Act.put, List.setIfInBounds_toArray, List.set_cons_zero, List.set_cons_succ, i64_w, i32_w]
                         rfl
                        refine pure_ (i := 5) (N := some 109) (v := ?_) (a' := ?_) #[true, true, true, true, true, true, false, false, false, false, false, false, false, false, false, false, false] rfl rfl (any_of HT_.out (by kernel_rfl)) (fun _ _ _ h => h) (Or.inl ⟨by rfl, ?_⟩) ?_ ?_
                        rotate_left
                        ·intro w'
                         go_simp
                         with_reducible rfl
                        rotate_left
                        ·simp only [Act.put, List.setIfInBounds_toArray, List.set_cons_zero, List.set_cons_succ, i64_w, i32_w]
                         rfl
                        refine pure_ (i := 7) (N := some 111) (v := ?_) (a' := ?_) #[true, true, true, true, true, true, false, true, false, false, false, false, false, false, false, false, false] rfl rfl (any_of HT_.out (by kernel_rfl)) (fun _ _ _ h => h) (Or.inl ⟨by rfl, ?_⟩) ?_ ?_
                        rotate_left
                        ·intro w'
                         go_simp
                         with_reducible rfl
                        rotate_left
                        ·simp only [Act.put, List.setIfInBounds_toArray, List.set_cons_zero, List.set_cons_succ, i64_w, i32_w]
                         rfl
                        refine pure_ (i := 8) (N := some 112) (v := ?_) (a' := ?_) #[true, true, true, true, true, true, false, true, true, false, false, false, false, false, false, false, false] rfl rfl (any_of HT_.out (by kernel_rfl)) (fun _ _ _ h => h) (Or.inl ⟨by rfl, ?_⟩) ?_ ?_
                        rotate_left
                        ·intro w'
                         go_simp
                         with_reducible rfl
                        rotate_left
                        ·simp only [Act.put, List.setIfInBounds_toArray, List.set_cons_zero, List.set_cons_succ, i64_w, i32_w]
                         rfl
                        refine pure_ (i := 9) (N := some 113) (v := ?_) (a' := ?_) #[true, true, true, true, true, true, false, true, true, true, false, false, false, false, false, false, false] rfl rfl (any_of HT_.out (by kernel_rfl)) (fun _ _ _ h => h) (Or.inl ⟨by rfl, ?_⟩) ?_ ?_
                        rotate_left
                        ·intro w'
                         go_simp
                         with_reducible rfl
                        rotate_left
                        ·simp only [Act.put, List.setIfInBounds_toArray, List.set_cons_zero, List.set_cons_succ, i64_w, i32_w]
                         rfl
                        refine pure_ (i := 10) (N := some 114) (v := ?_) (a' := ?_) #[true, true, true, true, true, true, false, true, true, true, true, false, false, false, false, false, false] rfl rfl (any_of HT_.out (by kernel_rfl)) (fun _ _ _ h => h) (Or.inl ⟨by rfl, ?_⟩) ?_ ?_
                        rotate_left
                        ·intro w'
                         go_simp
                         with_reducible rfl
                        rotate_left
                        ·simp only [Act.put, List.setIfInBounds_toArray, List.set_cons_zero, List.set_cons_succ, i64_w, i32_w]
                         rfl
                        refine pure_ (i := 12) (N := some 116) (v := ?_) (a' := ?_) #[true, true, true, true, true, true, false, true, true, true, true, false, true, false, false, false, false] rfl rfl (any_of HT_.out (by kernel_rfl)) (fun _ _ _ h => h) (Or.inl ⟨by rfl, ?_⟩) ?_ ?_
                        rotate_left
                        ·intro w'
                         go_simp
                         with_reducible rfl
                        rotate_left
                        ·simp only [Act.put, List.setIfInBounds_toArray, List.set_cons_zero, List.set_cons_succ, i64_w, i32_w]
                         rfl
                        refine take_ (i := 6) (N := some 110) (v := ?_) (a' := ?_) #[true, true, true, true, true, true, true, true, true, true, true, false, true, false, false, false, false] rfl rfl (take_ofW HT_.out HW_.out (by kernel_rfl)) (fun _ _ _ h => h) (Or.inl ⟨by rfl, ?_⟩) hHeld ?_ ?_
                        rotate_left
                        ·rintro w' ⟨s0, s1, s2, s3, s4, s5, s6, s7, s8, s9⟩
                         go_simp
                         with_reducible rfl
                        rotate_left
                        ·simp only [Act.put, List.setIfInBounds_toArray, List.set_cons_zero, List.set_cons_succ, i64_w, i32_w]
                         rfl
                        refine take_ (i := 11) (N := some 115) (v := ?_) (a' := ?_) #[true, true, true, true, true, true, true, true, true, true, true, true, true, false, false, false, false] rfl rfl (take_ofW HT_.out HW_.out (by kernel_rfl)) (fun _ _ _ h => h) (Or.inl ⟨by rfl, ?_⟩) hHeld ?_ ?_
                        rotate_left
                        ·rintro w' ⟨s0, s1, s2, s3, s4, s5, s6, s7, s8, s9⟩
                         go_simp
                         with_reducible rfl
                        rotate_left
                        ·simp only [Act.put, List.setIfInBounds_toArray, List.set_cons_zero, List.set_cons_succ, i64_w, i32_w]
                         rfl
                        refine pure_ (i := 13) (N := some 117) (v := ?_) (a' := ?_) #[true, true, true, true, true, true, true, true, true, true, true, true, true, true, false, false, false] rfl rfl (any_of HT_.out (by kernel_rfl)) (fun _ _ _ h => h) (Or.inl ⟨by rfl, ?_⟩) ?_ ?_
                        rotate_left
                        ·intro w'
                         go_simp
                         with_reducible rfl
                        rotate_left
                        ·simp only [Act.put, List.setIfInBounds_toArray, List.set_cons_zero, List.set_cons_succ, i64_w, i32_w]
                         rfl
                        refine pure_ (i := 14) (N := some 118) (v := ?_) (a' := ?_) #[true, true, true, true, true, true, true, true, true, true, true, true, true, true, true, false, false] rfl rfl (any_of HT_.out (by kernel_rfl)) (fun _ _ _ h => h) (Or.inl ⟨by rfl, ?_⟩) ?_ ?_
                        rotate_left
                        ·intro w'
                         go_simp
                         with_reducible rfl
                        rotate_left
                        ·simp only [Act.put, List.setIfInBounds_toArray, List.set_cons_zero, List.set_cons_succ, i64_w, i32_w]
                         rfl
                        refine one_ (i := 15) (N := some 119) #[true, true, true, true, true, true, true, true, true, true, true, true, true, true, true, true, false] rfl rfl (one_of HT_.out (by kernel_rfl)) (by decide) (fun K hK => ?_)
                        refine Kd.R_append_rows_step (Kd.int .i64) (w0 := w) w.heap.size (by rfl) (.tmp 104) (.tmp 118) 22 2 (.int .i64 0) 8 rfl Try.underlying22 info2 rfl (by decide) (by omega) (.slice none 0 0) ([] : List Int) y274 _ _ _ (fun k_ => some k_ ≠ (.slice Ao41 x11_5.length co41 : Value).ownBlock) (fun _ => False) rfl rfl ?aO ?aR (fun _ _ h => h) (fun _ h => h.elim) ?aF ?aB ?aS ?aL ?_
                        (case aR => repeat (first | exact (by repeat (first | (with_reducible exact HR277.out) | (with_reducible refine Kd.C_alloc ?_ _) | (with_reducible refine Kd.C_drewN ?_ _) | (with_reducible refine Kd.C_drew ?_) | exact HR277.out)) | (with_reducible refine Kd.C_alloc ?_ _) | (with_reducible refine Kd.C_drewN ?_ _) | (with_reducible refine Kd.C_drew ?_)))
                        (case aB => exact (by repeat (first | (with_reducible first | exact HB.out | apply below_alloc | apply pw_below_drewN | apply below_drew1) | exact HB.out)))
                        (case aF => exact (fun k_ hk => Kd.fresh' (Kd.R_lt (by (with_reducible repeat (first | apply Kd.R_alloc | apply Kd.R_drewN | apply Kd.R_drew)); exact HO_11.out)) k_ hk))
                        (case aO => exact ((Kd.R_nil _ _ _ _ (fun k_ => some k_ ≠ (.slice Ao41 x11_5.length co41 : Value).ownBlock))))
                        (case aS => exact (below_size (by repeat (first | (with_reducible first | exact HB.out | apply below_alloc | apply pw_below_drewN | apply below_drew1) | exact HB.out))))
                        (case aL => have := LMc34.out; omega)
                        intro v279 w42 ho hb hg hat
                        rw [← Ny278.out] at ho
                        have n0_ := Aside0.mk (Kd.R_after (Kd.R_apart_nil (by (with_reducible repeat (first | apply Kd.R_alloc | apply Kd.R_drewN | apply Kd.R_drew)); exact HO_11.out)) hg hat)
                        have n1_ := Aside0.mk (hb)
                        have n2_ := Aside0.mk ((show Kd.C (Kd.int .i64) w42 A40 y274.length y274 from by rw [Ny274.out, KA40.out]; exact Kd.C_mid (lo := (((rd_T35 l1 x16_5).f1) : Int).toNat) (hi := ((wrap64 (((rd_T35 l1 x16_5).f1) + x15_4)) : Int).toNat) (c := co41) ((Kd.R_reads' (Kd.R_after (Kd.R_apart_nil (by (with_reducible repeat (first | apply Kd.R_alloc | apply Kd.R_drewN | apply Kd.R_drew)); exact HO_11.out)) hg hat)).2.2) KM40.out KL40.out ((Kd.R_reads' (Kd.R_after (Kd.R_apart_nil (by (with_reducible repeat (first | apply Kd.R_alloc | apply Kd.R_drewN | apply Kd.R_drew)); exact HO_11.out)) hg hat)).2.1)))
                        have n3_ := Aside0.mk (ho)
                        clear HO_11
                        clear HB
                        clear HR277
                        have HO_11 := n0_
                        have HB := n1_
                        have HR277 := n2_
                        have HO280 := n3_
                        clear n0_ n1_ n2_ n3_
                        clear ho hb hg hat
                        refine hK.out _ _ ⟨((HB.out.cell (World.block_lt_of_cell? w _ hw272_0)).trans hw272_0), ((HB.out.cell (World.block_lt_of_cell? w _ hw272_1)).trans hw272_1), ((HB.out.cell (World.block_lt_of_cell? w _ hw272_2)).trans hw272_2), ((HB.out.cell (World.block_lt_of_cell? w _ hw272_3)).trans hw272_3), ((HB.out.cell (World.block_lt_of_cell? w _ hw272_4)).trans hw272_4), ((HB.out.cell (World.block_lt_of_cell? w _ hw273_0)).trans hw273_0), ((HB.out.cell (World.block_lt_of_cell? w _ hw273_1)).trans hw273_1), ((HB.out.cell (World.block_lt_of_cell? w _ hw273_2)).trans hw273_2), ((HB.out.cell (World.block_lt_of_cell? w _ hw273_3)).trans hw273_3), ((HB.out.cell (World.block_lt_of_cell? w _ hw273_4)).trans hw273_4)⟩ (fun hHeld => ?_)
                        clear hK K
                        refine norm_ (a' := ?_) ?_ ?_
                        rotate_left
                        ·show Act.put _ (some 119) _ = _
                         simp only [Act.put, List.setIfInBounds_toArray, List.set_cons_zero, List.set_cons_succ, i64_w, i32_w]
                         rfl
                        refine pure_ (i := 16) (N := some 17) (v := ?_) (a' := ?_) #[true, true, true, true, true, true, true, true, true, true, true, true, true, true, true, true, true] rfl rfl (any_of HT_.out (by kernel_rfl)) (fun _ _ _ h => h) (Or.inl ⟨by rfl, ?_⟩) ?_ ?_
                        rotate_left
                        ·intro w'
                         go_simp
                         with_reducible rfl
                        rotate_left
                        ·simp only [Act.put, List.setIfInBounds_toArray, List.set_cons_zero, List.set_cons_succ, i64_w, i32_w]
                         rfl
                        refine done_ (done_of HT_.out (by kernel_rfl)) ?_
                        have p281 : 0 ≤ (x16_5 : Int) := of_decide_eq_true (by first | (with_reducible assumption) | assumption)
                        have q281 : x16_5 < (l2.length : Int) := of_decide_eq_true (by first | (with_reducible assumption) | assumption)
                        obtain ⟨ad281, e281, hx281_0⟩ := Kd.at_int HR2.out x16_5 p281 q281
                        cases e281
                        replace hx281_0 := (HB.out.cell (World.block_lt_of_cell? w _ hx281_0)).trans hx281_0
                        replace p281 := eq_true p281
                        replace q281 := eq_true q281
                        try go_wp2_with (first | ((with_reducible refine gate_callee (f := 19) rfl ?_); refine goesL_ (some 127) rfl rfl Try.func19 (by kernel_rfl) rfl #[.int .i64 (rd l2 x16_5), .int .i64 a3, .int .i64 x15_4] rfl (by (try simp only [List.map_toArray, List.map_cons, List.map_nil]); first | done | rfl | (simp only [List.length_drop, List.length_take]; rfl)) ?_; (with_reducible refine (purflingref14_Part.calls k5 (rd l2 x16_5) a3 x15_4 t282 _ A36.out).mono ?_); rintro e w43 ⟨rfl, hb⟩; refine ⟨_, rfl, ?_⟩; have n0_ := Aside0.mk (Kd.R_below (by (with_reducible repeat (first | apply Kd.R_alloc | apply Kd.R_drewN | apply Kd.R_drew)); exact HO_11.out) hb); have n1_ := Aside0.mk (Kd.R_below (by (with_reducible repeat (first | apply Kd.R_alloc | apply Kd.R_drewN | apply Kd.R_drew)); exact HO280.out) hb); have n2_ := Aside0.mk (Kd.C_below (by repeat (first | (with_reducible exact HR277.out) | (with_reducible refine Kd.C_alloc ?_ _) | (with_reducible refine Kd.C_drewN ?_ _) | (with_reducible refine Kd.C_drew ?_) | exact HR277.out)) hb); have n3_ := Aside0.mk (below_step (by repeat (first | (with_reducible first | exact HB.out | apply below_alloc | apply pw_below_drewN | apply below_drew1) | exact HB.out)) hb); clear HO_11; clear HO280; clear HR277; clear HB; have HO_11 := n0_; have HO280 := n1_; have HR277 := n2_; have HB := n3_; clear n0_ n1_ n2_ n3_; (try clear hb); (try clear hb2); (try clear hk); (try clear hi); obtain ⟨Ao44, co44, eo44⟩ := Kd.R_slice HO280.out; subst eo44) | ((with_reducible refine gate_callee (f := 18) rfl ?_); refine goesL_ (some 130) rfl rfl Try.func18 (by kernel_rfl) rfl #[.int .i64 t282, .slice Ao44 y278.length co44, .slice Ao44 y278.length co44] rfl (by (try simp only [List.map_toArray, List.map_cons, List.map_nil]); first | done | rfl | (simp only [List.length_drop, List.length_take]; rfl)) ?_; (with_reducible refine (purflingref14_Over.calls k5 t282 _ _ y278 _ _ y278 t283 t284 _ ?side1 ?side2 ?side3 ?side4 A37.out).mono ?_); (case side1 => repeat (first | exact (Kd.R_reads' HO280.out).2.2 | (with_reducible refine Kd.C_alloc ?_ _) | (with_reducible refine Kd.C_drewN ?_ _) | (with_reducible refine Kd.C_drew ?_))); (case side2 => exact (Kd.R_reads' HO280.out).2.1); (case side3 => repeat (first | exact (Kd.R_reads' HO280.out).2.2 | (with_reducible refine Kd.C_alloc ?_ _) | (with_reducible refine Kd.C_drewN ?_ _) | (with_reducible refine Kd.C_drew ?_))); (case side4 => exact (Kd.R_reads' HO280.out).2.1); rintro e w45 ⟨v285, rfl, ho0, hb⟩; refine ⟨_, rfl, ?_⟩; have n0_ := Aside0.mk (Kd.R_elder' (by (with_reducible repeat (first | apply Kd.R_alloc | apply Kd.R_drewN | apply Kd.R_drew)); exact HO_11.out) (Kd.R_base ho0) hb); have n1_ := Aside0.mk (Kd.R_elder' (by (with_reducible repeat (first | apply Kd.R_alloc | apply Kd.R_drewN | apply Kd.R_drew)); exact HO280.out) (Kd.R_base ho0) hb); have n2_ := Aside0.mk (Kd.R_lower (Kd.R_new' (Kd.R_new' ho0 (Kd.R_lt (by (with_reducible repeat (first | apply Kd.R_alloc | apply Kd.R_drewN | apply Kd.R_drew)); exact HO_11.out))) (Kd.R_lt (by (with_reducible repeat (first | apply Kd.R_alloc | apply Kd.R_drewN | apply Kd.R_drew)); exact HO280.out))) (below_size (by repeat (first | (with_reducible first | exact HB.out | apply below_alloc | apply pw_below_drewN | apply below_drew1) | exact HB.out)))); have n3_ := Aside0.mk (Kd.C_below (by repeat (first | (with_reducible exact HR277.out) | (with_reducible refine Kd.C_alloc ?_ _) | (with_reducible refine Kd.C_drewN ?_ _) | (with_reducible refine Kd.C_drew ?_) | exact HR277.out)) hb); have n4_ := Aside0.mk (below_step (by repeat (first | (with_reducible first | exact HB.out | apply below_alloc | apply pw_below_drewN | apply below_drew1) | exact HB.out)) hb); clear HO_11; clear HO280; clear HR277; clear HB; have HO_11 := n0_; have HO280 := n1_; have HO286 := n2_; have HR277 := n3_; have HB := n4_; clear n0_ n1_ n2_ n3_ n4_; (try clear hb); (try clear hb2); (try clear hk); (try clear hi); (try clear ho0)))
                        go_loopg [20] k5 (fun kq v20 w' => ∃ (x11_6 : List Int) (x20_6 : Int), v20 = .int .i64 x20_6 ∧ Aside0 (purflingref16_Least.l4 kq l1 l2 a3 x11_6 x13_3 x15_4 x16_5 t283 x20_6 = some (r1, r2)) ∧ Aside0 (kq ≤ k5) ∧ Aside0 (Kd.R (Kd.int .i64) 2 w' w.heap.size (fun k_ => some k_ ≠ (v285 : Value).ownBlock) (.slice Ao41 x11_5.length co41) x11_6) ∧ Aside0 (Kd.R (Kd.int .i64) 2 w' w.heap.size (fun k_ => some k_ ≠ ((.slice Ao41 x11_5.length co41) : Value).ownBlock) v285 t283) ∧ Aside0 (Below w.heap.size w w'))
                        case atStart => exact ⟨(x11_5), (0), (by first | rfl | (simp; done) | (simp [*]; done)), H', ⟨Nat.le_refl _⟩, ⟨by (with_reducible repeat (first | apply Kd.R_alloc | apply Kd.R_drewN | apply Kd.R_drew)); exact Kd.R_mono HO_11.out (fun _ hk => hk.2)⟩, ⟨by (with_reducible repeat (first | apply Kd.R_alloc | apply Kd.R_drewN | apply Kd.R_drew)); exact Kd.R_mono HO286.out (fun _ hk => hk.1.2)⟩, ⟨by repeat (first | (with_reducible first | exact HB.out | apply below_alloc | apply pw_below_drewN | apply below_drew1) | exact HB.out)⟩⟩
                        case round =>
                         clear H'
                         try clear c1
                         try clear c2
                         try clear p2
                         try clear q2
                         try clear hx2
                         try clear c3
                         try clear c4
                         try clear q4
                         try clear p6
                         try clear c8
                         try clear c9
                         try clear c10
                         try clear c10b0
                         try clear c11
                         try clear c11b0
                         try clear c13
                         try clear c15
                         try clear c15b0
                         try clear c16
                         try clear c16b0
                         try clear c18
                         try clear c18b0
                         try clear c18b1
                         try clear c19
                         try clear c19b0
                         try clear c20
                         try clear c20b0
                         try clear c21
                         try clear c21b0
                         try clear p23
                         try clear q23
                         try clear hx23
                         try clear hf23
                         try clear p26
                         try clear q26
                         try clear hx26
                         try clear c27
                         try clear c27b0
                         try clear p27
                         try clear q27
                         try clear hx27
                         try clear c28
                         try clear c28b0
                         try clear p28
                         try clear q28
                         try clear hx28
                         try clear c29
                         try clear c29b0
                         try clear c30
                         try clear c30b0
                         try clear c30b1
                         try clear c31
                         try clear c31b0
                         try clear c31b1
                         try clear c32
                         try clear c32b0
                         try clear c32b1
                         try clear c33
                         try clear c33b0
                         try clear c33b1
                         try clear c34
                         try clear c35
                         try clear c35b0
                         try clear c38
                         try clear c38b0
                         try clear c38b1
                         try clear c40
                         try clear q40
                         try clear hx23_0
                         try clear hx260_0
                         try clear hx264_0
                         try clear hx264_1
                         try clear hx264_2
                         try clear hx264_3
                         try clear hx264_4
                         try clear hx265_0
                         try clear hx265_1
                         try clear hx265_2
                         try clear hx265_3
                         try clear hx265_4
                         try clear hx266_0
                         try clear hx266_1
                         try clear hx266_2
                         try clear hx266_3
                         try clear hx266_4
                         try clear hx267_0
                         try clear hx267_1
                         try clear hx267_2
                         try clear hx267_3
                         try clear hx267_4
                         try clear hx268_0
                         try clear hx269_0
                         try clear hx271_0
                         try clear hx271_1
                         try clear hx271_2
                         try clear hx271_3
                         try clear hx271_4
                         try clear hx272_0
                         try clear hx272_1
                         try clear hx272_2
                         try clear hx272_3
                         try clear hx272_4
                         try clear hx273_0
                         try clear hx273_1
                         try clear hx273_2
                         try clear hx273_3
                         try clear hx273_4
                         try clear hx281_0
                         try clear p2
                         try clear p23
                         try clear p26
                         try clear p260
                         try clear p264
                         try clear p265
                         try clear p266
                         try clear p267
                         try clear p268
                         try clear p269
                         try clear p271
                         try clear p272
                         try clear p273
                         try clear p281
                         try clear p6
                         try clear q040
                         try clear q2
                         try clear q23
                         try clear q26
                         try clear q260
                         try clear q264
                         try clear q265
                         try clear q266
                         try clear q267
                         try clear q268
                         try clear q269
                         try clear q271
                         try clear q272
                         try clear q273
                         try clear q281
                         try clear q40
                         obtain ⟨x11_6, x20_6, rfl, HA, HK6, HO_11, HO_18, HB⟩ := hrel
                         have hl11_6 := (Kd.R_reads' HO_11.out).1
                         rw [hl11_6] at HO_11
                         (try simp only [hl11_6])
                         (try simp only [hl11_6] at HO_18)
                         cases gk with
                         | zero => exact absurd HA.out (by simp [purflingref16_Least.l4])
                         | succ k6 =>
                          have H := HA.out
                          clear HA
                          simp only [purflingref16_Least.l4] at H
                          by_cases c46 : x20_6 < x15_4
                          ·rw [if_pos c46] at H
                           have c46b0 : decide (x20_6 < x15_4) = true := decide_eq_true c46
                           clear c46
                           by_cases c47 : 0 ≤ x16_5
                           ·rw [if_pos c47] at H
                            have c47b0 : decide (0 ≤ x16_5) = true := decide_eq_true c47
                            clear c47
                            by_cases c48 : x16_5 < (l1.length : Int)
                            ·rw [if_pos c48] at H
                             have c48b0 : decide (x16_5 < (l1.length : Int)) = true := decide_eq_true c48
                             clear c48
                             by_cases c49 : 0 ≤ x20_6
                             ·rw [if_pos c49] at H
                              have c49b0 : decide (0 ≤ x20_6) = true := decide_eq_true c49
                              clear c49
                              by_cases c50 : x20_6 < (t283.length : Int)
                              ·rw [if_pos c50] at H
                               have c50b0 : decide (x20_6 < (t283.length : Int)) = true := decide_eq_true c50
                               clear c50
                               obtain ⟨ji51, hji51⟩ : ∃ j_ : Int, (wrap64 (((rd_T35 l1 x16_5).f1) + x20_6)) = j_ := ⟨_, rfl⟩
                               replace H : (if 0 ≤ (ji51) then (if (ji51) < (x11_6.length : Int) then (purflingref16_Least.l4 k6 l1 l2 a3 (x11_6.set ((ji51) : Int).toNat (rd t283 x20_6)) x13_3 x15_4 x16_5 t283 (wrap64 (x20_6 + 1))) else (none)) else (none)) = some (r1, r2) := by first | (rw [hji51] at H; exact H) | (simp only [hji51] at H ⊢; exact H)
                               have hji51w : (IntKind.i64.wrap (((rd_T35 l1 x16_5).f1) + x20_6)) = ji51 := (i64_w _).trans hji51
                               by_cases c52 : 0 ≤ (ji51)
                               ·rw [if_pos c52] at H
                                have c52b0 : decide (0 ≤ (ji51)) = true := decide_eq_true c52
                                clear c52
                                by_cases c53 : (ji51) < (x11_6.length : Int)
                                ·rw [if_pos c53] at H
                                 have c53b0 : decide ((ji51) < (x11_6.length : Int)) = true := decide_eq_true c53
                                 clear c53
                                 obtain ⟨y289, hy289⟩ : ∃ y_ : List Int, y_ = (x11_6.set ((ji51) : Int).toNat (rd t283 x20_6)) := ⟨_, rfl⟩
                                 replace H : (purflingref16_Least.l4 k6 l1 l2 a3 y289 x13_3 x15_4 x16_5 t283 (wrap64 (x20_6 + 1))) = some (r1, r2) := by first | (rw [hy289]; with_reducible exact H) | (have H2_ := (Option.bind_some _ _).symm.trans H; rw [hy289]; with_reducible exact H2_) | (have H2_ := (Option.bind_some _ _).symm.trans H; with_reducible exact H2_) | with_reducible exact H | (rw [hy289]; exact H) | exact H
                                 have Ny289 := Aside0.mk hy289
                                 clear hy289
                                 have H' := Aside0.mk H
                                 clear H
                                 try go_wp2
                                 have n0_ := Aside0.mk (Kd.R_drew HO_11.out)
                                 have n1_ := Aside0.mk (Kd.R_drew HO_18.out)
                                 have n2_ := Aside0.mk (below_drew1 HB.out)
                                 clear HO_11
                                 clear HO_18
                                 clear HB
                                 have HO_11 := n0_
                                 have HO_18 := n1_
                                 have HB := n2_
                                 clear n0_ n1_ n2_
                                 have p287 : 0 ≤ (x16_5 : Int) := of_decide_eq_true (by first | (with_reducible assumption) | assumption)
                                 have q287 : x16_5 < (l1.length : Int) := of_decide_eq_true (by first | (with_reducible assumption) | assumption)
                                 obtain ⟨ad287, e287, hx287_0, hx287_1, hx287_2, hx287_3, hx287_4⟩ := at_T35 HR1.out x16_5 p287 q287
                                 have hw287_4 := hx287_4
                                 have hw287_3 := hx287_3
                                 have hw287_2 := hx287_2
                                 have hw287_1 := hx287_1
                                 have hw287_0 := hx287_0
                                 obtain rfl : ad271 = ad287 := (by injection e287)
                                 replace hx287_0 := (HB.out.cell (World.block_lt_of_cell? w _ hx287_0)).trans hx287_0
                                 replace hx287_1 := (HB.out.cell (World.block_lt_of_cell? w _ hx287_1)).trans hx287_1
                                 replace hx287_2 := (HB.out.cell (World.block_lt_of_cell? w _ hx287_2)).trans hx287_2
                                 replace hx287_3 := (HB.out.cell (World.block_lt_of_cell? w _ hx287_3)).trans hx287_3
                                 replace hx287_4 := (HB.out.cell (World.block_lt_of_cell? w _ hx287_4)).trans hx287_4
                                 replace p287 := eq_true p287
                                 replace q287 := eq_true q287
                                 obtain ⟨Ao56, co56, eo56⟩ := Kd.R_slice HO_18.out
                                 (first | subst eo56 | (injection eo56 with f1_ f2_ f3_; have f4_ := f1_.symm; have f5_ := f3_.symm; clear f1_ f2_ f3_; subst f4_; subst f5_))
                                 have p288 : 0 ≤ (x20_6 : Int) := of_decide_eq_true (by first | (with_reducible assumption) | assumption)
                                 have q288 : x20_6 < (t283.length : Int) := of_decide_eq_true (by first | (with_reducible assumption) | assumption)
                                 obtain ⟨ad288, e288, hx288_0⟩ := Kd.at_int (Kd.R_reads' HO_18.out).2.2 x20_6 p288 q288
                                 cases e288
                                 replace p288 := eq_true p288
                                 replace q288 := eq_true q288
                                 have p54 : 0 ≤ ((ji51) : Int) := of_decide_eq_true (by first | (with_reducible assumption) | assumption)
                                 have q54 : ((ji51) : Int) < ((x11_6.length : Int) : Int) := of_decide_eq_true (by first | (with_reducible assumption) | assumption)
                                 obtain ⟨go54, co54, eo54, gb54, gl54, cl54, HG54⟩ := Kd.R_form HO_11.out (by omega)
                                 (first | cases eo54 | (injection eo54 with ea_ en_ ec_; (first | subst ea_ | (injection ea_ with ea_; subst ea_)); subst ec_; clear en_))
                                 have GB54 := Aside0.mk gb54
                                 have GG54 := Aside0.mk HG54
                                 clear gb54 gl54 HG54
                                 obtain ⟨hx54_0, hf54_0⟩ := Kd.R_celln 0 HO_11.out ((ji51) : Int) p54 q54
                                 replace p54 := eq_true p54
                                 replace q54 := eq_true q54
                                 have HP57 := Kd.R_putn HO_11.out ((ji51) : Int) (rd t283 x20_6)
                                 rw [← Ny289.out] at HP57
                                 have HQ57 := Aside0.mk HP57
                                 clear HP57
                                 refine start_ (n := 14) (S := fun w' => w'.cell? (ad271.add ((x16_5).toNat * 5)) = some (.int .i64 ((rd_T35 l1 x16_5).f0)) ∧ w'.cell? ⟨(ad271.add ((x16_5).toNat * 5)).block, (ad271.add ((x16_5).toNat * 5)).off + 1, none⟩ = some (.int .i64 ((rd_T35 l1 x16_5).f1)) ∧ w'.cell? ⟨(ad271.add ((x16_5).toNat * 5)).block, (ad271.add ((x16_5).toNat * 5)).off + 2, none⟩ = some (.int .i64 ((rd_T35 l1 x16_5).f2)) ∧ w'.cell? ⟨(ad271.add ((x16_5).toNat * 5)).block, (ad271.add ((x16_5).toNat * 5)).off + 3, none⟩ = some (.int .i64 ((rd_T35 l1 x16_5).f3)) ∧ w'.cell? ⟨(ad271.add ((x16_5).toNat * 5)).block, (ad271.add ((x16_5).toNat * 5)).off + 4, none⟩ = some (.int .i64 ((rd_T35 l1 x16_5).f4)) ∧ w'.cell? (ad288.add (x20_6).toNat) = some (.int .i64 (rd t283 x20_6))) (ds := [13]) #[false, false, false, false, false, false, false, false, false, false, false, false, false, false] (by kernel_rfl) rfl rfl ⟨((HB.out.cell (World.block_lt_of_cell? w _ hw287_0)).trans hw287_0), ((HB.out.cell (World.block_lt_of_cell? w _ hw287_1)).trans hw287_1), ((HB.out.cell (World.block_lt_of_cell? w _ hw287_2)).trans hw287_2), ((HB.out.cell (World.block_lt_of_cell? w _ hw287_3)).trans hw287_3), ((HB.out.cell (World.block_lt_of_cell? w _ hw287_4)).trans hw287_4), hx288_0⟩ (fun hHeld => ?_); refine with_tabW purflingref16_Least.tab31 purflingref16_Least.bits31 (fun HT_ HW_ => ?_)
                                 generalize wr.drew = w55 at HO_11 HO_18 HB GG54 HQ57 hf54_0 hx287_0 hx287_1 hx287_2 hx287_3 hx287_4 hx288_0 hx54_0 hHeld ⊢
                                 refine pure_ (i := 0) (N := some 140) (v := ?_) (a' := ?_) #[true, false, false, false, false, false, false, false, false, false, false, false, false, false] rfl rfl (any_of HT_.out (by kernel_rfl)) (fun _ _ _ h => h) (Or.inl ⟨by rfl, ?_⟩) ?_ ?_
                                 rotate_left
                                 ·intro w'
                                  go_simp
                                  with_reducible rfl
                                 rotate_left
                                 ·simp only [Act.put, List.setIfInBounds_toArray, List.set_cons_zero, List.set_cons_succ, i64_w, i32_w]
                                  rfl
                                 refine pure_ (i := 1) (N := some 141) (v := ?_) (a' := ?_) #[true, true, false, false, false, false, false, false, false, false, false, false, false, false] rfl rfl (any_of HT_.out (by kernel_rfl)) (fun _ _ _ h => h) (Or.inl ⟨by rfl, ?_⟩) ?_ ?_
                                 rotate_left
                                 ·intro w'
                                  go_simp
                                  with_reducible rfl
                                 rotate_left
                                 ·simp only [Act.put, List.setIfInBounds_toArray, List.set_cons_zero, List.set_cons_succ, i64_w, i32_w]
                                  rfl
                                 refine pure_ (i := 2) (N := some 142) (v := ?_) (a' := ?_) #[true, true, true, false, false, false, false, false, false, false, false, false, false, false] rfl rfl (any_of HT_.out (by kernel_rfl)) (fun _ _ _ h => h) (Or.inl ⟨by rfl, ?_⟩) ?_ ?_
                                 rotate_left
                                 ·intro w'
                                  go_simp
                                  with_reducible rfl
                                 rotate_left
                                 ·simp only [Act.put, List.setIfInBounds_toArray, List.set_cons_zero, List.set_cons_succ, i64_w, i32_w]
                                  rfl
                                 refine pure_ (i := 3) (N := some 143) (v := ?_) (a' := ?_) #[true, true, true, true, false, false, false, false, false, false, false, false, false, false] rfl rfl (any_of HT_.out (by kernel_rfl)) (fun _ _ _ h => h) (Or.inl ⟨by rfl, ?_⟩) ?_ ?_
                                 rotate_left
                                 ·intro w'
                                  go_simp
                                  with_reducible rfl
                                 rotate_left
                                 ·simp only [Act.put, List.setIfInBounds_toArray, List.set_cons_zero, List.set_cons_succ, i64_w, i32_w]
                                  rfl
                                 refine pure_ (i := 4) (N := some 144) (v := ?_) (a' := ?_) #[true, true, true, true, true, false, false, false, false, false, false, false, false, false] rfl rfl (any_of HT_.out (by kernel_rfl)) (fun _ _ _ h => h) (Or.inl ⟨by rfl, ?_⟩) ?_ ?_
                                 rotate_left
                                 ·intro w'
                                  go_simp
                                  with_reducible rfl
                                 rotate_left
                                 ·simp only [Act.put, List.setIfInBounds_toArray, List.set_cons_zero, List.set_cons_succ, i64_w, i32_w]
                                  rfl
                                 refine pure_ (i := 6) (N := some 146) (v := ?_) (a' := ?_) #[true, true, true, true, true, false, true, false, false, false, false, false, false, false] rfl rfl (any_of HT_.out (by kernel_rfl)) (fun _ _ _ h => h) (Or.inl ⟨by rfl, ?_⟩) ?_ ?_
                                 rotate_left
                                 ·intro w'
                                  go_simp
                                  with_reducible rfl
                                 rotate_left
                                 ·simp only [Act.put, List.setIfInBounds_toArray, List.set_cons_zero, List.set_cons_succ, i64_w, i32_w]
                                  rfl
                                 refine pure_ (i := 8) (N := some 148) (v := ?_) (a' := ?_) #[true, true, true, true, true, false, true, false, true, false, false, false, false, false] rfl rfl (any_of HT_.out (by kernel_rfl)) (fun _ _ _ h => h) (Or.inl ⟨by rfl, ?_⟩) ?_ ?_
                                 rotate_left
                                 ·intro w'
                                  go_simp
                                  with_reducible rfl
                                 rotate_left
                                 ·simp only [Act.put, List.setIfInBounds_toArray, List.set_cons_zero, List.set_cons_succ, i64_w, i32_w]
                                  rfl
                                 refine pure_ (i := 9) (N := some 149) (v := ?_) (a' := ?_) #[true, true, true, true, true, false, true, false, true, true, false, false, false, false] rfl rfl (any_of HT_.out (by kernel_rfl)) (fun _ _ _ h => h) (Or.inl ⟨by rfl, ?_⟩) ?_ ?_
                                 rotate_left
                                 ·intro w'
                                  go_simp
                                  with_reducible rfl
                                 rotate_left
                                 ·simp only [Act.put, List.setIfInBounds_toArray, List.set_cons_zero, List.set_cons_succ, i64_w, i32_w]
                                  rfl
                                 refine pure_ (i := 10) (N := some 150) (v := ?_) (a' := ?_) #[true, true, true, true, true, false, true, false, true, true, true, false, false, false] rfl rfl (any_of HT_.out (by kernel_rfl)) (fun _ _ _ h => h) (Or.inl ⟨by rfl, ?_⟩) ?_ ?_
                                 rotate_left
                                 ·intro w'
                                  go_simp
                                  with_reducible rfl
                                 rotate_left
                                 ·simp only [Act.put, List.setIfInBounds_toArray, List.set_cons_zero, List.set_cons_succ, i64_w, i32_w]
                                  rfl
                                 refine take_ (i := 5) (N := some 145) (v := ?_) (a' := ?_) #[true, true, true, true, true, true, true, false, true, true, true, false, false, false] rfl rfl (take_ofW HT_.out HW_.out (by kernel_rfl)) (fun _ _ _ h => h) (Or.inl ⟨by rfl, ?_⟩) hHeld ?_ ?_
                                 rotate_left
                                 ·rintro w' ⟨s0, s1, s2, s3, s4, s5⟩
                                  go_simp
                                  with_reducible rfl
                                 rotate_left
                                 ·simp only [Act.put, List.setIfInBounds_toArray, List.set_cons_zero, List.set_cons_succ, i64_w, i32_w]
                                  rfl
                                 refine pure_ (i := 7) (N := some 147) (v := ?_) (a' := ?_) #[true, true, true, true, true, true, true, true, true, true, true, false, false, false] rfl rfl (any_of HT_.out (by kernel_rfl)) (fun _ _ _ h => h) (Or.inl ⟨by rfl, ?_⟩) ?_ ?_
                                 rotate_left
                                 ·intro w'
                                  go_simp
                                  with_reducible rfl
                                 rotate_left
                                 ·simp only [Act.put, List.setIfInBounds_toArray, List.set_cons_zero, List.set_cons_succ, i64_w, i32_w]
                                  rfl
                                 refine take_ (i := 11) (N := some 151) (v := ?_) (a' := ?_) #[true, true, true, true, true, true, true, true, true, true, true, true, false, false] rfl rfl (take_ofW HT_.out HW_.out (by kernel_rfl)) (fun _ _ _ h => h) (Or.inl ⟨by rfl, ?_⟩) hHeld ?_ ?_
                                 rotate_left
                                 ·rintro w' ⟨s0, s1, s2, s3, s4, s5⟩
                                  go_simp
                                  with_reducible rfl
                                 rotate_left
                                 ·simp only [Act.put, List.setIfInBounds_toArray, List.set_cons_zero, List.set_cons_succ, i64_w, i32_w]
                                  rfl
                                 refine pure_ (i := 12) (N := some 152) (v := ?_) (a' := ?_) #[true, true, true, true, true, true, true, true, true, true, true, true, true, false] rfl rfl (any_of HT_.out (by kernel_rfl)) (fun _ _ _ h => h) (Or.inl ⟨by rfl, ?_⟩) ?_ ?_
                                 rotate_left
                                 ·intro w'
                                  go_simp
                                  with_reducible rfl
                                 rotate_left
                                 ·simp only [Act.put, List.setIfInBounds_toArray, List.set_cons_zero, List.set_cons_succ, i64_w, i32_w]
                                  rfl
                                 refine last_ (i := 13) (N := none) #[true, true, true, true, true, true, true, true, true, true, true, true, true, true] rfl rfl (one_of HT_.out (by kernel_rfl)) (by decide) (fun K hK => ?_)
                                 refine skip_ (w1 := ?_) (by rfl) rfl ?_ ?_
                                 rotate_left
                                 ·go_simp
                                  rfl
                                 refine hK.out _ _ ?_
                                 clear hK K
                                 refine done_ (done_of HT_.out (by kernel_rfl)) ?_
                                 try go_wp2
                                 (try simp only [← hl11_6])
                                 go_roundg k6
                                 case measure => have := HJ5.out; have := HK2.out; have := HK3.out; have := HK4.out; have := HK5.out; have := HK6.out; omega
                                 case rel => exact ⟨(y289), (wrap64 (x20_6 + 1)), (by first | rfl | (simp; done) | (simp [*]; done)), H', ⟨by have := HJ5.out; have := HK2.out; have := HK3.out; have := HK4.out; have := HK5.out; have := HK6.out; omega⟩, ⟨by (try simp only [hl11_6]); (with_reducible repeat (first | apply Kd.R_alloc | apply Kd.R_drewN | apply Kd.R_drew)); exact HQ57.out⟩, ⟨by (try simp only [hl11_6]); (with_reducible repeat (first | apply Kd.R_alloc | apply Kd.R_drewN | apply Kd.R_drew)); exact Kd.R_mono (Kd.R_far (p := ⟨go54, ((ji51) : Int).toNat, none⟩) (Kd.R_mono HO_18.out (fun k_ hk => (⟨hk, fun e_ => hk (by rw [e_]; rfl)⟩ : _ ∧ k_ ≠ go54))) (fun _ hk => hk.2) (.int .i64 (rd t283 x20_6))) (fun _ hk => hk.1)⟩, ⟨by repeat (first | (with_reducible first | exact HB.out | apply below_alloc | apply pw_below_drewN | apply below_drew1 | refine below_set ?_ GB54.out) | exact HB.out)⟩⟩
                                ·rw [if_neg c53] at H
                                 exact absurd H (by simp)
                               ·rw [if_neg c52] at H
                                exact absurd H (by simp)
                              ·rw [if_neg c50] at H
                               exact absurd H (by simp)
                             ·rw [if_neg c49] at H
                              exact absurd H (by simp)
                            ·rw [if_neg c48] at H
                             exact absurd H (by simp)
                           ·rw [if_neg c47] at H
                            exact absurd H (by simp)
                          ·rw [if_neg c46] at H
                           have c46b0 : decide (x20_6 < x15_4) = false := decide_eq_false c46
                           clear c46
                           have H' := Aside0.mk H
                           clear H
                           go_wp2
                           (try simp only [← hl11_6])
                           go_roundg k6
                           case measure => have := HJ5.out; have := HK2.out; have := HK3.out; have := HK4.out; have := HK5.out; have := HK6.out; omega
                           case rel => exact ⟨(x11_6), (wrap64 (x16_5 + 1)), (by first | rfl | (simp; done) | (simp [*]; done)), H', ⟨by have := HJ5.out; have := HK2.out; have := HK3.out; have := HK4.out; have := HK5.out; have := HK6.out; omega⟩, ⟨by (try simp only [hl11_6]); (with_reducible repeat (first | apply Kd.R_alloc | apply Kd.R_drewN | apply Kd.R_drew)); exact Kd.R_mono HO_11.out (fun _ hk => trivial)⟩, ⟨by repeat (first | (with_reducible first | exact HB.out | apply below_alloc | apply pw_below_drewN | apply below_drew1) | exact HB.out)⟩⟩
                       ·rw [if_neg c38] at H
                        have c38b0 : (t284 == 0) = false := beq_eq_false_iff_ne.mpr c38
                        have c38b1 : (t284 != 0) = true := bne_iff_ne.mpr c38
                        simp only [Option.some.injEq, Prod.mk.injEq] at H
                        obtain ⟨rfl, rfl⟩ := H
                        have p271 : 0 ≤ (x16_5 : Int) := of_decide_eq_true (by first | (with_reducible assumption) | assumption)
                        have q271 : x16_5 < (l1.length : Int) := of_decide_eq_true (by first | (with_reducible assumption) | assumption)
                        obtain ⟨ad271, e271, hx271_0, hx271_1, hx271_2, hx271_3, hx271_4⟩ := at_T35 HR1.out x16_5 p271 q271
                        cases e271
                        replace hx271_0 := (HB.out.cell (World.block_lt_of_cell? w _ hx271_0)).trans hx271_0
                        replace hx271_1 := (HB.out.cell (World.block_lt_of_cell? w _ hx271_1)).trans hx271_1
                        replace hx271_2 := (HB.out.cell (World.block_lt_of_cell? w _ hx271_2)).trans hx271_2
                        replace hx271_3 := (HB.out.cell (World.block_lt_of_cell? w _ hx271_3)).trans hx271_3
                        replace hx271_4 := (HB.out.cell (World.block_lt_of_cell? w _ hx271_4)).trans hx271_4
                        replace p271 := eq_true p271
                        replace q271 := eq_true q271
                        try go_wp2
                        have n0_ := Aside0.mk (Kd.R_drew HO_11.out)
                        have n1_ := Aside0.mk (below_drew1 HB.out)
                        clear HO_11
                        clear HB
                        have HO_11 := n0_
                        have HB := n1_
                        clear n0_ n1_
                        have p272 : 0 ≤ (x16_5 : Int) := of_decide_eq_true (by first | (with_reducible assumption) | assumption)
                        have q272 : x16_5 < (l1.length : Int) := of_decide_eq_true (by first | (with_reducible assumption) | assumption)
                        obtain ⟨ad272, e272, hx272_0, hx272_1, hx272_2, hx272_3, hx272_4⟩ := at_T35 HR1.out x16_5 p272 q272
                        have hw272_4 := hx272_4
                        have hw272_3 := hx272_3
                        have hw272_2 := hx272_2
                        have hw272_1 := hx272_1
                        have hw272_0 := hx272_0
                        obtain rfl : ad271 = ad272 := (by injection e272)
                        replace hx272_0 := (HB.out.cell (World.block_lt_of_cell? w _ hx272_0)).trans hx272_0
                        replace hx272_1 := (HB.out.cell (World.block_lt_of_cell? w _ hx272_1)).trans hx272_1
                        replace hx272_2 := (HB.out.cell (World.block_lt_of_cell? w _ hx272_2)).trans hx272_2
                        replace hx272_3 := (HB.out.cell (World.block_lt_of_cell? w _ hx272_3)).trans hx272_3
                        replace hx272_4 := (HB.out.cell (World.block_lt_of_cell? w _ hx272_4)).trans hx272_4
                        replace p272 := eq_true p272
                        replace q272 := eq_true q272
                        have p273 : 0 ≤ (x16_5 : Int) := of_decide_eq_true (by first | (with_reducible assumption) | assumption)
                        have q273 : x16_5 < (l1.length : Int) := of_decide_eq_true (by first | (with_reducible assumption) | assumption)
                        obtain ⟨ad273, e273, hx273_0, hx273_1, hx273_2, hx273_3, hx273_4⟩ := at_T35 HR1.out x16_5 p273 q273
                        have hw273_4 := hx273_4
                        have hw273_3 := hx273_3
                        have hw273_2 := hx273_2
                        have hw273_1 := hx273_1
                        have hw273_0 := hx273_0
                        obtain rfl : ad271 = ad273 := (by injection e273)
                        replace hx273_0 := (HB.out.cell (World.block_lt_of_cell? w _ hx273_0)).trans hx273_0
                        replace hx273_1 := (HB.out.cell (World.block_lt_of_cell? w _ hx273_1)).trans hx273_1
                        replace hx273_2 := (HB.out.cell (World.block_lt_of_cell? w _ hx273_2)).trans hx273_2
                        replace hx273_3 := (HB.out.cell (World.block_lt_of_cell? w _ hx273_3)).trans hx273_3
                        replace hx273_4 := (HB.out.cell (World.block_lt_of_cell? w _ hx273_4)).trans hx273_4
                        replace p273 := eq_true p273
                        replace q273 := eq_true q273
                        obtain ⟨Ao60, co60, eo60⟩ := Kd.R_slice HO_11.out
                        (first | subst eo60 | (injection eo60 with f1_ f2_ f3_; have f4_ := f1_.symm; have f5_ := f3_.symm; clear f1_ f2_ f3_; subst f4_; subst f5_))
                        have q59 : ((wrap64 (((rd_T35 l1 x16_5).f1) + x15_4)) : Int) ≤ ((x11_5.length : Int) : Int) := of_decide_eq_true (by first | (with_reducible assumption) | assumption)
                        obtain ⟨i059, hi059, _, hsz59, _⟩ := info_parts info2
                        have hroom59 : x11_5.length ≤ co60 := (Kd.R_reads' HO_11.out).2.1
                        have hC59 : Kd.C (Kd.int .i64) _ Ao60 x11_5.length x11_5 := (Kd.R_reads' HO_11.out).2.2
                        have ql59 : (((rd_T35 l1 x16_5).f1) : Int) ≤ ((wrap64 (((rd_T35 l1 x16_5).f1) + x15_4)) : Int) := of_decide_eq_true (by first | (with_reducible assumption) | assumption)
                        have q059 : (0 : Int) ≤ (((rd_T35 l1 x16_5).f1) : Int) := of_decide_eq_true (by first | (with_reducible assumption) | assumption)
                        have hcut59 := cut_mid (P := Try.prog) 22 2 .i64 .i64 Try.underlying22 hi059 1 hsz59 Ao60 x11_5.length co60 ((rd_T35 l1 x16_5).f1) (wrap64 (((rd_T35 l1 x16_5).f1) + x15_4)) q059 ql59 q59 hroom59
                        have hr59 := Kd.C_mid (lo := (((rd_T35 l1 x16_5).f1) : Int).toNat) (hi := ((wrap64 (((rd_T35 l1 x16_5).f1) + x15_4)) : Int).toNat) (c := co60) hC59 (by omega) (by omega) hroom59
                        obtain ⟨A59, hA59⟩ : ∃ A1, A1 = (if co60 = (((rd_T35 l1 x16_5).f1) : Int).toNat then Ao60 else (Ao60 : Option Addr).map (·.add ((((rd_T35 l1 x16_5).f1) : Int).toNat * 1))) := ⟨_, rfl⟩
                        obtain ⟨c59, hc59⟩ : ∃ c1, c1 = co60 - (((rd_T35 l1 x16_5).f1) : Int).toNat := ⟨_, rfl⟩
                        have hy59 : y274.length = ((wrap64 (((rd_T35 l1 x16_5).f1) + x15_4)) : Int).toNat - (((rd_T35 l1 x16_5).f1) : Int).toNat := (by rw [Ny274.out, List.length_drop, List.length_take] <;> omega)
                        rw [show ((x11_5).take ((wrap64 (((rd_T35 l1 x16_5).f1) + x15_4)) : Int).toNat).drop (((rd_T35 l1 x16_5).f1) : Int).toNat = y274 from Ny274.out.symm] at hr59
                        replace hr59 : Kd.C (Kd.int .i64) _ A59 y274.length y274 := (by rw [hA59]; exact hr59)
                        rw [← hy59, ← hA59, ← hc59] at hcut59
                        have HR277 := Aside0.mk hr59
                        have HC277 := Aside0.mk (show y274.length ≤ c59 from by rw [hy59, hc59]; exact Nat.sub_le_sub_right (Nat.le_trans (by omega) hroom59) _)
                        clear hr59 hC59 hroom59 hi059 hsz59 hc59
                        have KY59 := Aside0.mk hy59
                        have KA59 := Aside0.mk hA59
                        clear hy59 hA59
                        have KL59 := Aside0.mk (show ((wrap64 (((rd_T35 l1 x16_5).f1) + x15_4)) : Int).toNat ≤ x11_5.length from by omega)
                        have KM59 := Aside0.mk (show (((rd_T35 l1 x16_5).f1) : Int).toNat ≤ ((wrap64 (((rd_T35 l1 x16_5).f1) + x15_4)) : Int).toNat from by omega)
                        replace q59 := eq_true q59
                        refine start_ (n := 17) (S := fun w' => w'.cell? (ad271.add ((x16_5).toNat * 5)) = some (.int .i64 ((rd_T35 l1 x16_5).f0)) ∧ w'.cell? ⟨(ad271.add ((x16_5).toNat * 5)).block, (ad271.add ((x16_5).toNat * 5)).off + 1, none⟩ = some (.int .i64 ((rd_T35 l1 x16_5).f1)) ∧ w'.cell? ⟨(ad271.add ((x16_5).toNat * 5)).block, (ad271.add ((x16_5).toNat * 5)).off + 2, none⟩ = some (.int .i64 ((rd_T35 l1 x16_5).f2)) ∧ w'.cell? ⟨(ad271.add ((x16_5).toNat * 5)).block, (ad271.add ((x16_5).toNat * 5)).off + 3, none⟩ = some (.int .i64 ((rd_T35 l1 x16_5).f3)) ∧ w'.cell? ⟨(ad271.add ((x16_5).toNat * 5)).block, (ad271.add ((x16_5).toNat * 5)).off + 4, none⟩ = some (.int .i64 ((rd_T35 l1 x16_5).f4)) ∧ w'.cell? (ad271.add ((x16_5).toNat * 5)) = some (.int .i64 ((rd_T35 l1 x16_5).f0)) ∧ w'.cell? ⟨(ad271.add ((x16_5).toNat * 5)).block, (ad271.add ((x16_5).toNat * 5)).off + 1, none⟩ = some (.int .i64 ((rd_T35 l1 x16_5).f1)) ∧ w'.cell? ⟨(ad271.add ((x16_5).toNat * 5)).block, (ad271.add ((x16_5).toNat * 5)).off + 2, none⟩ = some (.int .i64 ((rd_T35 l1 x16_5).f2)) ∧ w'.cell? ⟨(ad271.add ((x16_5).toNat * 5)).block, (ad271.add ((x16_5).toNat * 5)).off + 3, none⟩ = some (.int .i64 ((rd_T35 l1 x16_5).f3)) ∧ w'.cell? ⟨(ad271.add ((x16_5).toNat * 5)).block, (ad271.add ((x16_5).toNat * 5)).off + 4, none⟩ = some (.int .i64 ((rd_T35 l1 x16_5).f4))) (ds := []) #[false, false, false, false, false, false, false, false, false, false, false, false, false, false, false, false, false] (by kernel_rfl) rfl rfl ⟨((HB.out.cell (World.block_lt_of_cell? w _ hw272_0)).trans hw272_0), ((HB.out.cell (World.block_lt_of_cell? w _ hw272_1)).trans hw272_1), ((HB.out.cell (World.block_lt_of_cell? w _ hw272_2)).trans hw272_2), ((HB.out.cell (World.block_lt_of_cell? w _ hw272_3)).trans hw272_3), ((HB.out.cell (World.block_lt_of_cell? w _ hw272_4)).trans hw272_4), ((HB.out.cell (World.block_lt_of_cell? w _ hw273_0)).trans hw273_0), ((HB.out.cell (World.block_lt_of_cell? w _ hw273_1)).trans hw273_1), ((HB.out.cell (World.block_lt_of_cell? w _ hw273_2)).trans hw273_2), ((HB.out.cell (World.block_lt_of_cell? w _ hw273_3)).trans hw273_3), ((HB.out.cell (World.block_lt_of_cell? w _ hw273_4)).trans hw273_4)⟩ (fun hHeld => ?_); refine with_tabW purflingref16_Least.tab24 purflingref16_Least.bits24 (fun HT_ HW_ => ?_)
                        generalize wr.drew = w58 at HO_11 HB HR277 hx272_0 hx272_1 hx272_2 hx272_3 hx272_4 hx273_0 hx273_1 hx273_2 hx273_3 hx273_4 hHeld ⊢
                        refine pure_ (i := 0) (N := some 104) (v := ?_) (a' := ?_) #[true, false, false, false, false, false, false, false, false, false, false, false, false, false, false, false, false] rfl rfl (any_of HT_.out (by kernel_rfl)) (fun _ _ _ h => h) (Or.inl ⟨by rfl, ?_⟩) ?_ ?_
                        rotate_left
                        ·intro w'
                         go_simp
                         with_reducible rfl
                        rotate_left
                        ·simp only [Act.put, List.setIfInBounds_toArray, List.set_cons_zero, List.set_cons_succ, i64_w, i32_w]
                         rfl
                        refine pure_ (i := 1) (N := some 105) (v := ?_) (a' := ?_) #[true, true, false, false, false, false, false, false, false, false, false, false, false, false, false, false, false] rfl rfl (any_of HT_.out (by kernel_rfl)) (fun _ _ _ h => h) (Or.inl ⟨by rfl, ?_⟩) ?_ ?_
                        rotate_left
                        ·intro w'
                         go_simp
                         with_reducible rfl
                        rotate_left
                        ·simp only [Act.put, List.setIfInBounds_toArray, List.set_cons_zero, List.set_cons_succ, i64_w, i32_w]
                         rfl
                        refine pure_ (i := 2) (N := some 106) (v := ?_) (a' := ?_) #[true, true, true, false, false, false, false, false, false, false, false, false, false, false, false, false, false] rfl rfl (any_of HT_.out (by kernel_rfl)) (fun _ _ _ h => h) (Or.inl ⟨by rfl, ?_⟩) ?_ ?_
                        rotate_left
                        ·intro w'
                         go_simp
                         with_reducible rfl
                        rotate_left
                        ·simp only [Act.put, List.setIfInBounds_toArray, List.set_cons_zero, List.set_cons_succ, i64_w, i32_w]
                         rfl
                        refine pure_ (i := 3) (N := some 107) (v := ?_) (a' := ?_) #[true, true, true, true, false, false, false, false, false, false, false, false, false, false, false, false, false] rfl rfl (any_of HT_.out (by kernel_rfl)) (fun _ _ _ h => h) (Or.inl ⟨by rfl, ?_⟩) ?_ ?_
                        rotate_left
                        ·intro w'
                         go_simp
                         with_reducible rfl
                        rotate_left
                        ·simp only [Act.put, List.setIfInBounds_toArray, List.set_cons_zero, List.set_cons_succ, i64_w, i32_w]
                         rfl
                        refine pure_ (i := 4) (N := some 108) (v := ?_) (a' := ?_) #[true, true, true, true, true, false, false, false, false, false, false, false, false, false, false, false, false] rfl rfl (any_of HT_.out (by kernel_rfl)) (fun _ _ _ h => h) (Or.inl ⟨by rfl, ?_⟩) ?_ ?_
                        rotate_left
                        ·intro w'
                         go_simp
                         with_reducible rfl
                        rotate_left
                        ·simp only [Act.put, List.setIfInBounds_toArray, List.set_cons_zero, List.set_cons_succ, i64_w, i32_w]
                         rfl
                        refine pure_ (i := 5) (N := some 109) (v := ?_) (a' := ?_) #[true, true, true, true, true, true, false, false, false, false, false, false, false, false, false, false, false] rfl rfl (any_of HT_.out (by kernel_rfl)) (fun _ _ _ h => h) (Or.inl ⟨by rfl, ?_⟩) ?_ ?_
                        rotate_left
                        ·intro w'
                         go_simp
                         with_reducible rfl
                        rotate_left
                        ·simp only [Act.put, List.setIfInBounds_toArray, List.set_cons_zero, List.set_cons_succ, i64_w, i32_w]
                         rfl
                        refine pure_ (i := 7) (N := some 111) (v := ?_) (a' := ?_) #[true, true, true, true, true, true, false, true, false, false, false, false, false, false, false, false, false] rfl rfl (any_of HT_.out (by kernel_rfl)) (fun _ _ _ h => h) (Or.inl ⟨by rfl, ?_⟩) ?_ ?_
                        rotate_left
                        ·intro w'
                         go_simp
                         with_reducible rfl
                        rotate_left
                        ·simp only [Act.put, List.setIfInBounds_toArray, List.set_cons_zero, List.set_cons_succ, i64_w, i32_w]
                         rfl
                        refine pure_ (i := 8) (N := some 112) (v := ?_) (a' := ?_) #[true, true, true, true, true, true, false, true, true, false, false, false, false, false, false, false, false] rfl rfl (any_of HT_.out (by kernel_rfl)) (fun _ _ _ h => h) (Or.inl ⟨by rfl, ?_⟩) ?_ ?_
                        rotate_left
                        ·intro w'
                         go_simp
                         with_reducible rfl
                        rotate_left
                        ·simp only [Act.put, List.setIfInBounds_toArray, List.set_cons_zero, List.set_cons_succ, i64_w, i32_w]
                         rfl
                        refine pure_ (i := 9) (N := some 113) (v := ?_) (a' := ?_) #[true, true, true, true, true, true, false, true, true, true, false, false, false, false, false, false, false] rfl rfl (any_of HT_.out (by kernel_rfl)) (fun _ _ _ h => h) (Or.inl ⟨by rfl, ?_⟩) ?_ ?_
                        rotate_left
                        ·intro w'
                         go_simp
                         with_reducible rfl
                        rotate_left
                        ·simp only [Act.put, List.setIfInBounds_toArray, List.set_cons_zero, List.set_cons_succ, i64_w, i32_w]
                         rfl
                        refine pure_ (i := 10) (N := some 114) (v := ?_) (a' := ?_) #[true, true, true, true, true, true, false, true, true, true, true, false, false, false, false, false, false] rfl rfl (any_of HT_.out (by kernel_rfl)) (fun _ _ _ h => h) (Or.inl ⟨by rfl, ?_⟩) ?_ ?_
                        rotate_left
                        ·intro w'
                         go_simp
                         with_reducible rfl
                        rotate_left
                        ·simp only [Act.put, List.setIfInBounds_toArray, List.set_cons_zero, List.set_cons_succ, i64_w, i32_w]
                         rfl
                        refine pure_ (i := 12) (N := some 116) (v := ?_) (a' := ?_) #[true, true, true, true, true, true, false, true, true, true, true, false, true, false, false, false, false] rfl rfl (any_of HT_.out (by kernel_rfl)) (fun _ _ _ h => h) (Or.inl ⟨by rfl, ?_⟩) ?_ ?_
                        rotate_left
                        ·intro w'
                         go_simp
                         with_reducible rfl
                        rotate_left
                        ·simp only [Act.put, List.setIfInBounds_toArray, List.set_cons_zero, List.set_cons_succ, i64_w, i32_w]
                         rfl
                        refine take_ (i := 6) (N := some 110) (v := ?_) (a' := ?_) #[true, true, true, true, true, true, true, true, true, true, true, false, true, false, false, false, false] rfl rfl (take_ofW HT_.out HW_.out (by kernel_rfl)) (fun _ _ _ h => h) (Or.inl ⟨by rfl, ?_⟩) hHeld ?_ ?_
                        rotate_left
                        ·rintro w' ⟨s0, s1, s2, s3, s4, s5, s6, s7, s8, s9⟩
                         go_simp
                         with_reducible rfl
                        rotate_left
                        ·simp only [Act.put, List.setIfInBounds_toArray, List.set_cons_zero, List.set_cons_succ, i64_w, i32_w]
                         rfl
                        refine take_ (i := 11) (N := some 115) (v := ?_) (a' := ?_) #[true, true, true, true, true, true, true, true, true, true, true, true, true, false, false, false, false] rfl rfl (take_ofW HT_.out HW_.out (by kernel_rfl)) (fun _ _ _ h => h) (Or.inl ⟨by rfl, ?_⟩) hHeld ?_ ?_
                        rotate_left
                        ·rintro w' ⟨s0, s1, s2, s3, s4, s5, s6, s7, s8, s9⟩
                         go_simp
                         with_reducible rfl
                        rotate_left
                        ·simp only [Act.put, List.setIfInBounds_toArray, List.set_cons_zero, List.set_cons_succ, i64_w, i32_w]
                         rfl
                        refine pure_ (i := 13) (N := some 117) (v := ?_) (a' := ?_) #[true, true, true, true, true, true, true, true, true, true, true, true, true, true, false, false, false] rfl rfl (any_of HT_.out (by kernel_rfl)) (fun _ _ _ h => h) (Or.inl ⟨by rfl, ?_⟩) ?_ ?_
                        rotate_left
                        ·intro w'
                         go_simp
                         with_reducible rfl
                        rotate_left
                        ·simp only [Act.put, List.setIfInBounds_toArray, List.set_cons_zero, List.set_cons_succ, i64_w, i32_w]
                         rfl
                        refine pure_ (i := 14) (N := some 118) (v := ?_) (a' := ?_) #[true, true, true, true, true, true, true, true, true, true, true, true, true, true, true, false, false] rfl rfl (any_of HT_.out (by kernel_rfl)) (fun _ _ _ h => h) (Or.inl ⟨by rfl, ?_⟩) ?_ ?_
                        rotate_left
                        ·intro w'
                         go_simp
                         with_reducible rfl
                        rotate_left
                        ·simp only [Act.put, List.setIfInBounds_toArray, List.set_cons_zero, List.set_cons_succ, i64_w, i32_w]
                         rfl
                        refine one_ (i := 15) (N := some 119) #[true, true, true, true, true, true, true, true, true, true, true, true, true, true, true, true, false] rfl rfl (one_of HT_.out (by kernel_rfl)) (by decide) (fun K hK => ?_)
                        refine Kd.R_append_rows_step (Kd.int .i64) (w0 := w) w.heap.size (by rfl) (.tmp 104) (.tmp 118) 22 2 (.int .i64 0) 8 rfl Try.underlying22 info2 rfl (by decide) (by omega) (.slice none 0 0) ([] : List Int) y274 _ _ _ (fun k_ => some k_ ≠ (.slice Ao60 x11_5.length co60 : Value).ownBlock) (fun _ => False) rfl rfl ?aO ?aR (fun _ _ h => h) (fun _ h => h.elim) ?aF ?aB ?aS ?aL ?_
                        (case aR => repeat (first | exact (by repeat (first | (with_reducible exact HR277.out) | (with_reducible refine Kd.C_alloc ?_ _) | (with_reducible refine Kd.C_drewN ?_ _) | (with_reducible refine Kd.C_drew ?_) | exact HR277.out)) | (with_reducible refine Kd.C_alloc ?_ _) | (with_reducible refine Kd.C_drewN ?_ _) | (with_reducible refine Kd.C_drew ?_)))
                        (case aB => exact (by repeat (first | (with_reducible first | exact HB.out | apply below_alloc | apply pw_below_drewN | apply below_drew1) | exact HB.out)))
                        (case aF => exact (fun k_ hk => Kd.fresh' (Kd.R_lt (by (with_reducible repeat (first | apply Kd.R_alloc | apply Kd.R_drewN | apply Kd.R_drew)); exact HO_11.out)) k_ hk))
                        (case aO => exact ((Kd.R_nil _ _ _ _ (fun k_ => some k_ ≠ (.slice Ao60 x11_5.length co60 : Value).ownBlock))))
                        (case aS => exact (below_size (by repeat (first | (with_reducible first | exact HB.out | apply below_alloc | apply pw_below_drewN | apply below_drew1) | exact HB.out))))
                        (case aL => have := LMc34.out; omega)
                        intro v279 w61 ho hb hg hat
                        rw [← Ny278.out] at ho
                        have n0_ := Aside0.mk (Kd.R_after (Kd.R_apart_nil (by (with_reducible repeat (first | apply Kd.R_alloc | apply Kd.R_drewN | apply Kd.R_drew)); exact HO_11.out)) hg hat)
                        have n1_ := Aside0.mk (hb)
                        have n2_ := Aside0.mk ((show Kd.C (Kd.int .i64) w61 A59 y274.length y274 from by rw [Ny274.out, KA59.out]; exact Kd.C_mid (lo := (((rd_T35 l1 x16_5).f1) : Int).toNat) (hi := ((wrap64 (((rd_T35 l1 x16_5).f1) + x15_4)) : Int).toNat) (c := co60) ((Kd.R_reads' (Kd.R_after (Kd.R_apart_nil (by (with_reducible repeat (first | apply Kd.R_alloc | apply Kd.R_drewN | apply Kd.R_drew)); exact HO_11.out)) hg hat)).2.2) KM59.out KL59.out ((Kd.R_reads' (Kd.R_after (Kd.R_apart_nil (by (with_reducible repeat (first | apply Kd.R_alloc | apply Kd.R_drewN | apply Kd.R_drew)); exact HO_11.out)) hg hat)).2.1)))
                        have n3_ := Aside0.mk (ho)
                        clear HO_11
                        clear HB
                        clear HR277
                        have HO_11 := n0_
                        have HB := n1_
                        have HR277 := n2_
                        have HO280 := n3_
                        clear n0_ n1_ n2_ n3_
                        clear ho hb hg hat
                        refine hK.out _ _ ⟨((HB.out.cell (World.block_lt_of_cell? w _ hw272_0)).trans hw272_0), ((HB.out.cell (World.block_lt_of_cell? w _ hw272_1)).trans hw272_1), ((HB.out.cell (World.block_lt_of_cell? w _ hw272_2)).trans hw272_2), ((HB.out.cell (World.block_lt_of_cell? w _ hw272_3)).trans hw272_3), ((HB.out.cell (World.block_lt_of_cell? w _ hw272_4)).trans hw272_4), ((HB.out.cell (World.block_lt_of_cell? w _ hw273_0)).trans hw273_0), ((HB.out.cell (World.block_lt_of_cell? w _ hw273_1)).trans hw273_1), ((HB.out.cell (World.block_lt_of_cell? w _ hw273_2)).trans hw273_2), ((HB.out.cell (World.block_lt_of_cell? w _ hw273_3)).trans hw273_3), ((HB.out.cell (World.block_lt_of_cell? w _ hw273_4)).trans hw273_4)⟩ (fun hHeld => ?_)
                        clear hK K
                        refine norm_ (a' := ?_) ?_ ?_
                        rotate_left
                        ·show Act.put _ (some 119) _ = _
                         simp only [Act.put, List.setIfInBounds_toArray, List.set_cons_zero, List.set_cons_succ, i64_w, i32_w]
                         rfl
                        refine pure_ (i := 16) (N := some 17) (v := ?_) (a' := ?_) #[true, true, true, true, true, true, true, true, true, true, true, true, true, true, true, true, true] rfl rfl (any_of HT_.out (by kernel_rfl)) (fun _ _ _ h => h) (Or.inl ⟨by rfl, ?_⟩) ?_ ?_
                        rotate_left
                        ·intro w'
                         go_simp
                         with_reducible rfl
                        rotate_left
                        ·simp only [Act.put, List.setIfInBounds_toArray, List.set_cons_zero, List.set_cons_succ, i64_w, i32_w]
                         rfl
                        refine done_ (done_of HT_.out (by kernel_rfl)) ?_
                        have p281 : 0 ≤ (x16_5 : Int) := of_decide_eq_true (by first | (with_reducible assumption) | assumption)
                        have q281 : x16_5 < (l2.length : Int) := of_decide_eq_true (by first | (with_reducible assumption) | assumption)
                        obtain ⟨ad281, e281, hx281_0⟩ := Kd.at_int HR2.out x16_5 p281 q281
                        cases e281
                        replace hx281_0 := (HB.out.cell (World.block_lt_of_cell? w _ hx281_0)).trans hx281_0
                        replace p281 := eq_true p281
                        replace q281 := eq_true q281
                        try go_wp2_with (first | ((with_reducible refine gate_callee (f := 19) rfl ?_); refine goesL_ (some 127) rfl rfl Try.func19 (by kernel_rfl) rfl #[.int .i64 (rd l2 x16_5), .int .i64 a3, .int .i64 x15_4] rfl (by (try simp only [List.map_toArray, List.map_cons, List.map_nil]); first | done | rfl | (simp only [List.length_drop, List.length_take]; rfl)) ?_; (with_reducible refine (purflingref14_Part.calls k5 (rd l2 x16_5) a3 x15_4 t282 _ A36.out).mono ?_); rintro e w62 ⟨rfl, hb⟩; refine ⟨_, rfl, ?_⟩; have n0_ := Aside0.mk (Kd.R_below (by (with_reducible repeat (first | apply Kd.R_alloc | apply Kd.R_drewN | apply Kd.R_drew)); exact HO_11.out) hb); have n1_ := Aside0.mk (Kd.R_below (by (with_reducible repeat (first | apply Kd.R_alloc | apply Kd.R_drewN | apply Kd.R_drew)); exact HO280.out) hb); have n2_ := Aside0.mk (Kd.C_below (by repeat (first | (with_reducible exact HR277.out) | (with_reducible refine Kd.C_alloc ?_ _) | (with_reducible refine Kd.C_drewN ?_ _) | (with_reducible refine Kd.C_drew ?_) | exact HR277.out)) hb); have n3_ := Aside0.mk (below_step (by repeat (first | (with_reducible first | exact HB.out | apply below_alloc | apply pw_below_drewN | apply below_drew1) | exact HB.out)) hb); clear HO_11; clear HO280; clear HR277; clear HB; have HO_11 := n0_; have HO280 := n1_; have HR277 := n2_; have HB := n3_; clear n0_ n1_ n2_ n3_; (try clear hb); (try clear hb2); (try clear hk); (try clear hi); obtain ⟨Ao63, co63, eo63⟩ := Kd.R_slice HO280.out; subst eo63) | ((with_reducible refine gate_callee (f := 18) rfl ?_); refine goesL_ (some 130) rfl rfl Try.func18 (by kernel_rfl) rfl #[.int .i64 t282, .slice Ao63 y278.length co63, .slice Ao63 y278.length co63] rfl (by (try simp only [List.map_toArray, List.map_cons, List.map_nil]); first | done | rfl | (simp only [List.length_drop, List.length_take]; rfl)) ?_; (with_reducible refine (purflingref14_Over.calls k5 t282 _ _ y278 _ _ y278 t283 t284 _ ?side1 ?side2 ?side3 ?side4 A37.out).mono ?_); (case side1 => repeat (first | exact (Kd.R_reads' HO280.out).2.2 | (with_reducible refine Kd.C_alloc ?_ _) | (with_reducible refine Kd.C_drewN ?_ _) | (with_reducible refine Kd.C_drew ?_))); (case side2 => exact (Kd.R_reads' HO280.out).2.1); (case side3 => repeat (first | exact (Kd.R_reads' HO280.out).2.2 | (with_reducible refine Kd.C_alloc ?_ _) | (with_reducible refine Kd.C_drewN ?_ _) | (with_reducible refine Kd.C_drew ?_))); (case side4 => exact (Kd.R_reads' HO280.out).2.1); rintro e w64 ⟨v285, rfl, ho0, hb⟩; refine ⟨_, rfl, ?_⟩; have n0_ := Aside0.mk (Kd.R_elder' (by (with_reducible repeat (first | apply Kd.R_alloc | apply Kd.R_drewN | apply Kd.R_drew)); exact HO_11.out) (Kd.R_base ho0) hb); have n1_ := Aside0.mk (Kd.R_elder' (by (with_reducible repeat (first | apply Kd.R_alloc | apply Kd.R_drewN | apply Kd.R_drew)); exact HO280.out) (Kd.R_base ho0) hb); have n2_ := Aside0.mk (Kd.R_lower (Kd.R_new' (Kd.R_new' ho0 (Kd.R_lt (by (with_reducible repeat (first | apply Kd.R_alloc | apply Kd.R_drewN | apply Kd.R_drew)); exact HO_11.out))) (Kd.R_lt (by (with_reducible repeat (first | apply Kd.R_alloc | apply Kd.R_drewN | apply Kd.R_drew)); exact HO280.out))) (below_size (by repeat (first | (with_reducible first | exact HB.out | apply below_alloc | apply pw_below_drewN | apply below_drew1) | exact HB.out)))); have n3_ := Aside0.mk (Kd.C_below (by repeat (first | (with_reducible exact HR277.out) | (with_reducible refine Kd.C_alloc ?_ _) | (with_reducible refine Kd.C_drewN ?_ _) | (with_reducible refine Kd.C_drew ?_) | exact HR277.out)) hb); have n4_ := Aside0.mk (below_step (by repeat (first | (with_reducible first | exact HB.out | apply below_alloc | apply pw_below_drewN | apply below_drew1) | exact HB.out)) hb); clear HO_11; clear HO280; clear HR277; clear HB; have HO_11 := n0_; have HO280 := n1_; have HO286 := n2_; have HR277 := n3_; have HB := n4_; clear n0_ n1_ n2_ n3_ n4_; (try clear hb); (try clear hb2); (try clear hk); (try clear hi); (try clear ho0)))
                        go_ret2
                        exact ⟨_, by first | rfl | (simp [errW_none, errW_some] <;> rfl) | (simp [*, errW_none, errW_some] <;> rfl), by first | exact Kd.R_nil _ _ _ _ _ | exact Kd.N_nil _ _ _ _ _ | exact Kd.V_nil _ _ _ _ _ | exact Kd.Q_nil _ _ _ _ _ | exact Kd.S_nil _ _ _ _ _, by repeat (first | (with_reducible first | exact HB.out | apply below_alloc | apply pw_below_drewN | apply below_drew1) | exact HB.out)⟩
                      ·rw [if_neg c35] at H
                       exact absurd H (by simp)
                     ·rw [if_neg c34] at H
                      exact absurd H (by simp)
                    ·rw [if_neg c33] at H
                     exact absurd H (by simp)
                   ·rw [if_neg c32] at H
                    exact absurd H (by simp)
                  ·rw [if_neg c31] at H
                   exact absurd H (by simp)
                 ·rw [if_neg c30] at H
                  have c30b0 : (((rd_T35 l1 x16_5).f3) == x15_4) = false := beq_eq_false_iff_ne.mpr c30
                  have c30b1 : (((rd_T35 l1 x16_5).f3) != x15_4) = true := bne_iff_ne.mpr c30
                  have H' := Aside0.mk H
                  clear H
                  have p271 : 0 ≤ (x16_5 : Int) := of_decide_eq_true (by first | (with_reducible assumption) | assumption)
                  have q271 : x16_5 < (l1.length : Int) := of_decide_eq_true (by first | (with_reducible assumption) | assumption)
                  obtain ⟨ad271, e271, hx271_0, hx271_1, hx271_2, hx271_3, hx271_4⟩ := at_T35 HR1.out x16_5 p271 q271
                  cases e271
                  replace hx271_0 := (HB.out.cell (World.block_lt_of_cell? w _ hx271_0)).trans hx271_0
                  replace hx271_1 := (HB.out.cell (World.block_lt_of_cell? w _ hx271_1)).trans hx271_1
                  replace hx271_2 := (HB.out.cell (World.block_lt_of_cell? w _ hx271_2)).trans hx271_2
                  replace hx271_3 := (HB.out.cell (World.block_lt_of_cell? w _ hx271_3)).trans hx271_3
                  replace hx271_4 := (HB.out.cell (World.block_lt_of_cell? w _ hx271_4)).trans hx271_4
                  replace p271 := eq_true p271
                  replace q271 := eq_true q271
                  go_wp2
                  go_roundg k5
                  case measure => have := HJ5.out; have := HK2.out; have := HK3.out; have := HK4.out; have := HK5.out; omega
                  case rel => exact ⟨(x11_5), (wrap64 (x16_5 + 1)), (by first | rfl | (simp; done) | (simp [*]; done)), H', ⟨by have := HJ5.out; have := HK2.out; have := HK3.out; have := HK4.out; have := HK5.out; omega⟩, ⟨by (with_reducible repeat (first | apply Kd.R_alloc | apply Kd.R_drewN | apply Kd.R_drew)); exact HO_11.out⟩, ⟨by repeat (first | (with_reducible first | exact HB.out | apply below_alloc | apply pw_below_drewN | apply below_drew1) | exact HB.out)⟩⟩
                ·rw [if_neg c29] at H
                 exact absurd H (by simp)
               ·rw [if_neg c28] at H
                have c28b0 : decide (x16_5 < (l1.length : Int)) = false := decide_eq_false c28
                clear c28
                have H' := Aside0.mk H
                clear H
                go_wp2
                go_roundg k5
                case measure => have := HJ5.out; have := HK2.out; have := HK3.out; have := HK4.out; have := HK5.out; omega
                case rel => exact ⟨(x11_5), (wrap64 (x15_4 + 1)), (by first | rfl | (simp; done) | (simp [*]; done)), H', ⟨by have := HJ5.out; have := HK2.out; have := HK3.out; have := HK4.out; have := HK5.out; omega⟩, ⟨by (with_reducible repeat (first | apply Kd.R_alloc | apply Kd.R_drewN | apply Kd.R_drew)); exact HO_11.out⟩, ⟨by repeat (first | (with_reducible first | exact HB.out | apply below_alloc | apply pw_below_drewN | apply below_drew1) | exact HB.out)⟩⟩
            ·rw [if_neg c27] at H
             have c27b0 : decide (x15_4 ≤ x13_3) = false := decide_eq_false c27
             clear c27
             simp only [Option.some.injEq, Prod.mk.injEq] at H
             obtain ⟨rfl, rfl⟩ := H
             go_wp2
             go_ret2
             exact ⟨_, by first | rfl | (simp [errW_none, errW_some] <;> rfl) | (simp [*, errW_none, errW_some] <;> rfl), by (with_reducible repeat (first | apply Kd.R_alloc | apply Kd.R_drewN | apply Kd.R_drew)); exact HO_11.out, by repeat (first | (with_reducible first | exact HB.out | apply below_alloc | apply pw_below_drewN | apply below_drew1) | exact HB.out)⟩

end Go.Proofs.Ytgghbmhmpkeccaa.PA
