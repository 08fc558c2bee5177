-- MADE by wip/tools/xprint.py of this repo: the kit's print.py, turned by this session, and texts by hand
import Derived.Test.YtacigmhhegaieaaPAx0
import Derived.Test.YtacigmhhegaieaaPAx25
import Derived.Test.YtacigmhhegaieaaPAx26
namespace Go.Proofs.Ytacigmhhegaieaa.PA
open Go.RowKit Go.Proofs.YtacigmhhegaieaaW.PrintWords Go.Proofs.YtacigmhhegaieaaW.PrintLast Go.Proofs.YtacigmhhegaieaaW.PrintMore
attribute [local go_sem] max2_int min2_int max_two min_two max_three min_three max_four min_four   -- for this text's walks alone
set_option linter.unusedVariables false
set_option linter.unusedSimpArgs false

/-! ### purflingref14_one: function 39 -/
mutual
def purflingref14_one.l0 : Nat → List (S39) → Int → List Int → List Int → Int → Int → Int → Int → Int → Int → Int → Int → Int → Int → Int → Int → Int → Int → Int → Option (Bool × (List (S39)))
 | 0, _, _, _, _, _, _, _, _, _, _, _, _, _, _, _, _, _, _, _ => none
 | k + 1, x0, x2, x7, x8, x10, x243000, x243001, x243002, x243003, x243004, x243005, x243006, x243007, x243008, x244000, x244001, x244002, x244003, x244004 => if x10 < (wrap64 (x244002 + x244004)) then (if 0 ≤ x10 then (if x10 < (x0.length : Int) then (if x7.length < 17592186044416 then (if x8.length < 17592186044416 then (purflingref14_one.l0 k x0 x2 (x7 ++ [(rd_T39 x0 x10).f0]) (x8 ++ [(rd_T39 x0 x10).f1]) (wrap64 (x10 + 1)) x243000 x243001 x243002 x243003 x243004 x243005 x243006 x243007 x243008 x244000 x244001 x244002 x244003 x244004) else (none)) else (none)) else (none)) else (none)) else ((purflingref14_Part.f k x243005 x2 x244004).bind fun t252 => ((purflingref14_Over.f k t252 x7 x8).bind fun bt253 => (if bt253.2 = 0 then (purflingref14_one.l1 k x0 x2 x8 bt253.1 0 x243000 x243001 x243002 x243003 x243004 x243005 x243006 x243007 x243008 x244000 x244001 x244002 x244003 x244004) else (some (false, x0)))))
def purflingref14_one.l1 : Nat → List (S39) → Int → List Int → List Int → Int → Int → Int → Int → Int → Int → Int → Int → Int → Int → Int → Int → Int → Int → Int → Option (Bool × (List (S39)))
 | 0, _, _, _, _, _, _, _, _, _, _, _, _, _, _, _, _, _, _, _ => none
 | k + 1, x0, x2, x8, x11, x13, x243000, x243001, x243002, x243003, x243004, x243005, x243006, x243007, x243008, x244000, x244001, x244002, x244003, x244004 => if x13 < x244004 then (if 0 ≤ x13 then (if x13 < (x11.length : Int) then (if 0 ≤ (wrap64 (x244002 + x13)) then (if (wrap64 (x244002 + x13)) < (x0.length : Int) then ((some (x0.set ((wrap64 (x244002 + x13)) : Int).toNat (⟨rd x11 x13, (rd_T39 x0 (wrap64 (x244002 + x13))).f1, (rd_T39 x0 (wrap64 (x244002 + x13))).f2, (rd_T39 x0 (wrap64 (x244002 + x13))).f3⟩ : S39) : List (S39))).bind fun y258 => (if x13 < (x8.length : Int) then (purflingref14_one.l1 k (y258.set ((wrap64 (x244002 + x13)) : Int).toNat (⟨(rd_T39 y258 (wrap64 (x244002 + x13))).f0, mx (rd x8 x13) (rd x11 x13), (rd_T39 y258 (wrap64 (x244002 + x13))).f2, (rd_T39 y258 (wrap64 (x244002 + x13))).f3⟩ : S39)) x2 (x8.set (x13 : Int).toNat (mx (rd x8 x13) (rd x11 x13))) x11 (wrap64 (x13 + 1)) x243000 x243001 x243002 x243003 x243004 x243005 x243006 x243007 x243008 x244000 x244001 x244002 x244003 x244004) else (none))) else (none)) else (none)) else (none)) else (none)) else ((purflingref14_Part.f k x243006 x2 x244004).bind fun t265 => ((purflingref14_Over.f k t265 x8 x8).bind fun bt266 => (if bt266.2 = 0 then (purflingref14_one.l2 k x0 bt266.1 0 x244000 x244001 x244002 x244003 x244004) else (some (false, x0)))))
def purflingref14_one.l2 : Nat → List (S39) → List Int → Int → Int → Int → Int → Int → Int → Option (Bool × (List (S39)))
 | 0, _, _, _, _, _, _, _, _ => none
 | k + 1, x0, x14, x16, x244000, x244001, x244002, x244003, x244004 => if x16 < x244004 then (if 0 ≤ x16 then (if x16 < (x14.length : Int) then (if 0 ≤ (wrap64 (x244002 + x16)) then (if (wrap64 (x244002 + x16)) < (x0.length : Int) then (purflingref14_one.l2 k (x0.set ((wrap64 (x244002 + x16)) : Int).toNat (⟨(rd_T39 x0 (wrap64 (x244002 + x16))).f0, rd x14 x16, (rd_T39 x0 (wrap64 (x244002 + x16))).f2, (rd_T39 x0 (wrap64 (x244002 + x16))).f3⟩ : S39)) x14 (wrap64 (x16 + 1)) x244000 x244001 x244002 x244003 x244004) else (none)) else (none)) else (none)) else (none)) else (purflingref14_one.l3 k x0 x14 0 x244000 x244001 x244002 x244003 x244004)
def purflingref14_one.l3 : Nat → List (S39) → List Int → Int → Int → Int → Int → Int → Int → Option (Bool × (List (S39)))
 | 0, _, _, _, _, _, _, _, _ => none
 | k + 1, x0, x14, x17, x244000, x244001, x244002, x244003, x244004 => if x17 < x244004 then (if 0 ≤ x17 then (if x17 < (x14.length : Int) then (if (rd x14 x17) > 1125899906842623 then (some (false, x0)) else (purflingref14_one.l3 k x0 x14 (wrap64 (x17 + 1)) x244000 x244001 x244002 x244003 x244004)) else (none)) else (none)) else (some (true, x0))
end
def purflingref14_one.f (k : Nat) (l0 : List (S39)) (a1_0 : Int) (a1_1 : Int) (a1_2 : Int) (a1_3 : Int) (a1_4 : Int) (a1_5 : Int) (a1_6 : Int) (a1_7 : Int) (a1_8 : Int) (a2 : Int) : Option (Bool × (List (S39))) := purflingref14_one.l0 k l0 a2 ([] : List Int) ([] : List Int) a1_2 a1_0 a1_1 a1_2 a1_3 a1_4 a1_5 a1_6 a1_7 a1_8 a1_0 a1_1 a1_2 a1_3 a1_4
theorem purflingref14_one.mono_l : ∀ k, (∀ y0 y1 y2 y3 y4 y5 y6 y7 y8 y9 y10 y11 y12 y13 y14 y15 y16 y17 y18, LeO (purflingref14_one.l0 k y0 y1 y2 y3 y4 y5 y6 y7 y8 y9 y10 y11 y12 y13 y14 y15 y16 y17 y18) (purflingref14_one.l0 (k + 1) y0 y1 y2 y3 y4 y5 y6 y7 y8 y9 y10 y11 y12 y13 y14 y15 y16 y17 y18)) ∧ (∀ y0 y1 y2 y3 y4 y5 y6 y7 y8 y9 y10 y11 y12 y13 y14 y15 y16 y17 y18, LeO (purflingref14_one.l1 k y0 y1 y2 y3 y4 y5 y6 y7 y8 y9 y10 y11 y12 y13 y14 y15 y16 y17 y18) (purflingref14_one.l1 (k + 1) y0 y1 y2 y3 y4 y5 y6 y7 y8 y9 y10 y11 y12 y13 y14 y15 y16 y17 y18)) ∧ (∀ y0 y1 y2 y3 y4 y5 y6 y7, LeO (purflingref14_one.l2 k y0 y1 y2 y3 y4 y5 y6 y7) (purflingref14_one.l2 (k + 1) y0 y1 y2 y3 y4 y5 y6 y7)) ∧ (∀ y0 y1 y2 y3 y4 y5 y6 y7, LeO (purflingref14_one.l3 k y0 y1 y2 y3 y4 y5 y6 y7) (purflingref14_one.l3 (k + 1) y0 y1 y2 y3 y4 y5 y6 y7))
 | 0 => ⟨fun _ _ _ _ _ _ _ _ _ _ _ _ _ _ _ _ _ _ _ r h => by simp [purflingref14_one.l0] at h, fun _ _ _ _ _ _ _ _ _ _ _ _ _ _ _ _ _ _ _ r h => by simp [purflingref14_one.l1] at h, fun _ _ _ _ _ _ _ _ r h => by simp [purflingref14_one.l2] at h, fun _ _ _ _ _ _ _ _ r h => by simp [purflingref14_one.l3] at h⟩
 | k + 1 => by
  obtain ⟨ih0, ih1, ih2, ih3⟩ := purflingref14_one.mono_l k
  refine ⟨?_, ?_, ?_, ?_⟩
  ·intro y0 y1 y2 y3 y4 y5 y6 y7 y8 y9 y10 y11 y12 y13 y14 y15 y16 y17 y18
   unfold purflingref14_one.l0
   repeat' first
   | (with_reducible exact ih0 _ _ _ _ _ _ _ _ _ _ _ _ _ _ _ _ _ _ _)
   | (with_reducible exact ih1 _ _ _ _ _ _ _ _ _ _ _ _ _ _ _ _ _ _ _)
   | (with_reducible exact ih2 _ _ _ _ _ _ _ _)
   | (with_reducible exact ih3 _ _ _ _ _ _ _ _)
   | (with_reducible exact purflingref14_Over.mono _ _ _ _)
   | (with_reducible exact purflingref14_Part.mono _ _ _ _)
   | (with_reducible exact LeO.refl _)
   | (with_reducible exact LeO.none _)
   | (with_reducible refine LeO.ite ?_ ?_)
   | (with_reducible refine LeO.bind ?_ (fun _ => ?_))
   | exact ih0 _ _ _ _ _ _ _ _ _ _ _ _ _ _ _ _ _ _ _
   | exact ih1 _ _ _ _ _ _ _ _ _ _ _ _ _ _ _ _ _ _ _
   | exact ih2 _ _ _ _ _ _ _ _
   | exact ih3 _ _ _ _ _ _ _ _
   | exact purflingref14_Over.mono _ _ _ _
   | exact purflingref14_Part.mono _ _ _ _
   | exact LeO.none _
   | refine LeO.ite ?_ ?_
   | refine LeO.bind ?_ (fun _ => ?_)
  ·intro y0 y1 y2 y3 y4 y5 y6 y7 y8 y9 y10 y11 y12 y13 y14 y15 y16 y17 y18
   unfold purflingref14_one.l1
   repeat' first
   | (with_reducible exact ih0 _ _ _ _ _ _ _ _ _ _ _ _ _ _ _ _ _ _ _)
   | (with_reducible exact ih1 _ _ _ _ _ _ _ _ _ _ _ _ _ _ _ _ _ _ _)
   | (with_reducible exact ih2 _ _ _ _ _ _ _ _)
   | (with_reducible exact ih3 _ _ _ _ _ _ _ _)
   | (with_reducible exact purflingref14_Over.mono _ _ _ _)
   | (with_reducible exact purflingref14_Part.mono _ _ _ _)
   | (with_reducible exact LeO.refl _)
   | (with_reducible exact LeO.none _)
   | (with_reducible refine LeO.ite ?_ ?_)
   | (with_reducible refine LeO.bind ?_ (fun _ => ?_))
   | exact ih0 _ _ _ _ _ _ _ _ _ _ _ _ _ _ _ _ _ _ _
   | exact ih1 _ _ _ _ _ _ _ _ _ _ _ _ _ _ _ _ _ _ _
   | exact ih2 _ _ _ _ _ _ _ _
   | exact ih3 _ _ _ _ _ _ _ _
   | exact purflingref14_Over.mono _ _ _ _
   | exact purflingref14_Part.mono _ _ _ _
   | exact LeO.none _
   | refine LeO.ite ?_ ?_
   | refine LeO.bind ?_ (fun _ => ?_)
  ·intro y0 y1 y2 y3 y4 y5 y6 y7
   unfold purflingref14_one.l2
   repeat' first
   | (with_reducible exact ih0 _ _ _ _ _ _ _ _ _ _ _ _ _ _ _ _ _ _ _)
   | (with_reducible exact ih1 _ _ _ _ _ _ _ _ _ _ _ _ _ _ _ _ _ _ _)
   | (with_reducible exact ih2 _ _ _ _ _ _ _ _)
   | (with_reducible exact ih3 _ _ _ _ _ _ _ _)
   | (with_reducible exact purflingref14_Over.mono _ _ _ _)
   | (with_reducible exact purflingref14_Part.mono _ _ _ _)
   | (with_reducible exact LeO.refl _)
   | (with_reducible exact LeO.none _)
   | (with_reducible refine LeO.ite ?_ ?_)
   | (with_reducible refine LeO.bind ?_ (fun _ => ?_))
   | exact ih0 _ _ _ _ _ _ _ _ _ _ _ _ _ _ _ _ _ _ _
   | exact ih1 _ _ _ _ _ _ _ _ _ _ _ _ _ _ _ _ _ _ _
   | exact ih2 _ _ _ _ _ _ _ _
   | exact ih3 _ _ _ _ _ _ _ _
   | exact purflingref14_Over.mono _ _ _ _
   | exact purflingref14_Part.mono _ _ _ _
   | exact LeO.none _
   | refine LeO.ite ?_ ?_
   | refine LeO.bind ?_ (fun _ => ?_)
  ·intro y0 y1 y2 y3 y4 y5 y6 y7
   unfold purflingref14_one.l3
   repeat' first
   | (with_reducible exact ih0 _ _ _ _ _ _ _ _ _ _ _ _ _ _ _ _ _ _ _)
   | (with_reducible exact ih1 _ _ _ _ _ _ _ _ _ _ _ _ _ _ _ _ _ _ _)
   | (with_reducible exact ih2 _ _ _ _ _ _ _ _)
   | (with_reducible exact ih3 _ _ _ _ _ _ _ _)
   | (with_reducible exact purflingref14_Over.mono _ _ _ _)
   | (with_reducible exact purflingref14_Part.mono _ _ _ _)
   | (with_reducible exact LeO.refl _)
   | (with_reducible exact LeO.none _)
   | (with_reducible refine LeO.ite ?_ ?_)
   | (with_reducible refine LeO.bind ?_ (fun _ => ?_))
   | exact ih0 _ _ _ _ _ _ _ _ _ _ _ _ _ _ _ _ _ _ _
   | exact ih1 _ _ _ _ _ _ _ _ _ _ _ _ _ _ _ _ _ _ _
   | exact ih2 _ _ _ _ _ _ _ _
   | exact ih3 _ _ _ _ _ _ _ _
   | exact purflingref14_Over.mono _ _ _ _
   | exact purflingref14_Part.mono _ _ _ _
   | exact LeO.none _
   | refine LeO.ite ?_ ?_
   | refine LeO.bind ?_ (fun _ => ?_)
theorem purflingref14_one.mono : ∀ a0 a1 a2 a3 a4 a5 a6 a7 a8 a9 a10 k, LeO (purflingref14_one.f k a0 a1 a2 a3 a4 a5 a6 a7 a8 a9 a10) (purflingref14_one.f (k + 1) a0 a1 a2 a3 a4 a5 a6 a7 a8 a9 a10) := by
 intro a0 a1 a2 a3 a4 a5 a6 a7 a8 a9 a10 k
 obtain ⟨ih0, ih1, ih2, ih3⟩ := purflingref14_one.mono_l k
 unfold purflingref14_one.f
 repeat' first
   | (with_reducible exact ih0 _ _ _ _ _ _ _ _ _ _ _ _ _ _ _ _ _ _ _)
   | (with_reducible exact ih1 _ _ _ _ _ _ _ _ _ _ _ _ _ _ _ _ _ _ _)
   | (with_reducible exact ih2 _ _ _ _ _ _ _ _)
   | (with_reducible exact ih3 _ _ _ _ _ _ _ _)
   | (with_reducible exact purflingref14_Over.mono _ _ _ _)
   | (with_reducible exact purflingref14_Part.mono _ _ _ _)
   | (with_reducible exact LeO.refl _)
   | (with_reducible exact LeO.none _)
   | (with_reducible refine LeO.ite ?_ ?_)
   | (with_reducible refine LeO.bind ?_ (fun _ => ?_))
   | exact ih0 _ _ _ _ _ _ _ _ _ _ _ _ _ _ _ _ _ _ _
   | exact ih1 _ _ _ _ _ _ _ _ _ _ _ _ _ _ _ _ _ _ _
   | exact ih2 _ _ _ _ _ _ _ _
   | exact ih3 _ _ _ _ _ _ _ _
   | exact purflingref14_Over.mono _ _ _ _
   | exact purflingref14_Part.mono _ _ _ _
   | exact LeO.none _
   | refine LeO.ite ?_ ?_
   | refine LeO.bind ?_ (fun _ => ?_)
def purflingref14_one.T14 : Bool × List (List Nat × List Nat) := (true, [([], []), ([], []), ([1], [1]), ([], []), ([2, 3], [2, 3]), ([], []), ([], []), ([5, 6], [5, 6]), ([7], [7]), ([0, 4, 0, 1, 2, 3, 4, 5, 6, 7, 8], [0, 4]), ([9, 0, 1, 2, 3, 4, 5, 6, 7, 8], [9]), ([10, 8, 0, 1, 2, 3, 4, 5, 6, 7, 8], [8, 10])])
def purflingref14_one.B14 : List Nat := [0, 0, 2, 0, 14, 0, 0, 96, 224, 511, 1023, 2047]
theorem purflingref14_one.tab14 : rtab .any (opsOf Try.f39 14) = purflingref14_one.T14 := by kernel_rfl
theorem purflingref14_one.bits14 : waitsOk purflingref14_one.T14.2 purflingref14_one.B14 = true := by kernel_rfl
def purflingref14_one.T15 : Bool × List (List Nat × List Nat) := (true, [([], []), ([], []), ([1], [1]), ([], []), ([2, 3], [2, 3]), ([], []), ([], []), ([5, 6], [5, 6]), ([7], [7]), ([], []), ([], []), ([9, 10], [9, 10]), ([11], [11]), ([8, 12], [8, 12]), ([0, 4, 0, 1, 2, 3, 4, 5, 6, 7, 8, 9, 10, 11, 12, 13], [0, 4]), ([14, 0, 1, 2, 3, 4, 5, 6, 7, 8, 9, 10, 11, 12, 13], [14]), ([15, 13, 0, 1, 2, 3, 4, 5, 6, 7, 8, 9, 10, 11, 12, 13], [13, 15])])
def purflingref14_one.B15 : List Nat := [0, 0, 2, 0, 14, 0, 0, 96, 224, 0, 0, 1536, 3584, 8160, 16383, 32767, 65535]
theorem purflingref14_one.tab15 : rtab .any (opsOf Try.f39 15) = purflingref14_one.T15 := by kernel_rfl
theorem purflingref14_one.bits15 : waitsOk purflingref14_one.T15.2 purflingref14_one.B15 = true := by kernel_rfl
def purflingref14_one.T16 : Bool × List (List Nat × List Nat) := (true, [([], []), ([], []), ([], []), ([], []), ([2, 3], [2, 3]), ([4], [4]), ([], []), ([], []), ([6, 7], [6, 7]), ([8], [8]), ([5, 9], [5, 9]), ([0, 1, 0, 1, 2, 3, 4, 5, 6, 7, 8, 9, 10], [0, 1]), ([11, 10, 0, 1, 2, 3, 4, 5, 6, 7, 8, 9, 10], [10, 11])])
def purflingref14_one.B16 : List Nat := [0, 0, 0, 0, 12, 28, 0, 0, 192, 448, 1020, 2047, 4095]
theorem purflingref14_one.tab16 : rtab .any (opsOf Try.f39 16) = purflingref14_one.T16 := by kernel_rfl
theorem purflingref14_one.bits16 : waitsOk purflingref14_one.T16.2 purflingref14_one.B16 = true := by kernel_rfl
def purflingref14_one.T23 : Bool × List (List Nat × List Nat) := (true, [([], []), ([], []), ([1], [1]), ([], []), ([2, 3], [2, 3]), ([], []), ([], []), ([5, 6], [5, 6]), ([7], [7]), ([0, 4, 0, 1, 2, 3, 4, 5, 6, 7, 8], [0, 4]), ([9, 0, 1, 2, 3, 4, 5, 6, 7, 8], [9]), ([10, 8, 0, 1, 2, 3, 4, 5, 6, 7, 8], [8, 10])])
def purflingref14_one.B23 : List Nat := [0, 0, 2, 0, 14, 0, 0, 96, 224, 511, 1023, 2047]
theorem purflingref14_one.tab23 : rtab .any (opsOf Try.f39 23) = purflingref14_one.T23 := by kernel_rfl
theorem purflingref14_one.bits23 : waitsOk purflingref14_one.T23.2 purflingref14_one.B23 = true := by kernel_rfl
set_option maxHeartbeats 8000000 in
set_option maxRecDepth 100000 in
theorem purflingref14_one.calls (k : Nat) (P0_ : Nat → Prop) (u9000_ : Value) (l0 : List (S39)) (a1_0 : Int) (a1_1 : Int) (a1_2 : Int) (a1_3 : Int) (a1_4 : Int) (a1_5 : Int) (a1_6 : Int) (a1_7 : Int) (a1_8 : Int) (a2 : Int) (r1 : Bool) (r2 : List (S39)) (w0 w : World) (hB : Below w0.heap.size w0 w) (ho0 : Kd.R k39 39 w w0.heap.size P0_ u9000_ l0) (h : purflingref14_one.f k l0 a1_0 a1_1 a1_2 a1_3 a1_4 a1_5 a1_6 a1_7 a1_8 a2 = some (r1, r2)) :
  Calls Try.prog 39 #[u9000_, .agg #[.int .i64 a1_0, .int .i64 a1_1, .int .i64 a1_2, .int .i64 a1_3, .int .i64 a1_4, .int .i64 a1_5, .int .i64 a1_6, .int .i64 a1_7, .int .i64 a1_8], .int .i64 a2] w fun e w' => e = .returned (.bool r1) ∧ Kd.R k39 39 w' w0.heap.size (fun k_ => (P0_ k_ ∨ w.heap.size ≤ k_)) u9000_ r2 ∧ Below w0.heap.size w0 w' ∧ Kept w w' (fun k_ => P0_ k_) := by
 have hu37 := Try.underlying37
 have hu33 := Try.underlying33
 have HO0 := Aside0.mk (show Kd.R k39 39 w w0.heap.size (fun k_ => (P0_ k_ ∨ w.heap.size ≤ k_)) u9000_ l0 from Kd.R_mono ho0 (fun k_ hk => (.inl hk)))
 have HK := Aside0.mk (Kept.refl w (fun k_ => P0_ k_))
 have HW0 := Aside0.mk hB.size
 have HB := Aside0.mk hB
 clear hB
 have H : (purflingref14_one.l0 k l0 a2 ([] : List Int) ([] : List Int) a1_2 a1_0 a1_1 a1_2 a1_3 a1_4 a1_5 a1_6 a1_7 a1_8 a1_0 a1_1 a1_2 a1_3 a1_4) = some (r1, r2) := h
 clear h
 have H' := Aside0.mk H
 clear H
 go_enter Try.func39, Try.ntmps39
 go_wp2_with (first | ((with_reducible refine gate_dst (N := 4) rfl ?_); refine box_event ?hg (N := 4) ?hd (cs := #[.int .i64 a1_0, .int .i64 a1_1, .int .i64 a1_2, .int .i64 a1_3, .int .i64 a1_4, .int .i64 a1_5, .int .i64 a1_6, .int .i64 a1_7, .int .i64 a1_8]) (t := 37) ?hr ?_; (case hd => rfl); (case hg => rfl); (case hr => first | (go_simp; done) | (go_simp; rfl)); intro gb242 hg w4 hbox hb; have n0_ := Aside0.mk (Kd.R_below (by (with_reducible repeat (first | apply Kd.R_alloc | apply Kd.R_drewN | apply Kd.R_drew)); exact HO0.out) hb); have n1_ := Aside0.mk (Kept.below (S := (fun k_ => P0_ k_)) (by repeat (first | (with_reducible first | exact HK.out | apply Kept.alloc | apply Kept.drewN | apply Kept.drew) | exact HK.out)) hb); have n2_ := Aside0.mk (below_step (by repeat (first | (with_reducible first | exact HB.out | apply below_alloc | apply pw_below_drewN | apply below_drew1) | exact HB.out)) hb); have n3_ := Aside0.mk (hbox); have n4_ := Aside0.mk ((by rw [hg]; exact (by first | exact HK.out.1 | exact (show Kept w _ (fun k_ => P0_ k_) from by repeat (first | (with_reducible first | exact HK.out | apply Kept.alloc | apply Kept.drewN | apply Kept.drew) | exact HK.out)).1) : w.heap.size ≤ gb242)); have n5_ := Aside0.mk ((by rw [hg]; exact (below_size (by repeat (first | (with_reducible first | exact HB.out | apply below_alloc | apply pw_below_drewN | apply below_drew1) | exact HB.out))) : w0.heap.size ≤ gb242)); clear HO0; clear HK; clear HB; have HO0 := n0_; have HK := n1_; have HB := n2_; have BK242 := n3_; have GW242 := n4_; have GE242 := n5_; clear n0_ n1_ n2_ n3_ n4_ n5_; clear hb hbox hg; have hcz5_0 : w4.cell? ⟨gb242, 0, none⟩ = some (.int .i64 a1_0) := (blk_cell BK242.out 0).trans rfl; have hcz5_1 : w4.cell? ⟨gb242, 1, none⟩ = some (.int .i64 a1_1) := (blk_cell BK242.out 1).trans rfl; have hcz5_2 : w4.cell? ⟨gb242, 2, none⟩ = some (.int .i64 a1_2) := (blk_cell BK242.out 2).trans rfl; have hcz5_3 : w4.cell? ⟨gb242, 3, none⟩ = some (.int .i64 a1_3) := (blk_cell BK242.out 3).trans rfl; have hcz5_4 : w4.cell? ⟨gb242, 4, none⟩ = some (.int .i64 a1_4) := (blk_cell BK242.out 4).trans rfl; have hcz5_5 : w4.cell? ⟨gb242, 5, none⟩ = some (.int .i64 a1_5) := (blk_cell BK242.out 5).trans rfl; have hcz5_6 : w4.cell? ⟨gb242, 6, none⟩ = some (.int .i64 a1_6) := (blk_cell BK242.out 6).trans rfl; have hcz5_7 : w4.cell? ⟨gb242, 7, none⟩ = some (.int .i64 a1_7) := (blk_cell BK242.out 7).trans rfl; have hcz5_8 : w4.cell? ⟨gb242, 8, none⟩ = some (.int .i64 a1_8) := (blk_cell BK242.out 8).trans rfl; have hfz5_0 := blk_frozen BK242.out 0; have hfz5_1 := blk_frozen BK242.out 1; have hfz5_2 := blk_frozen BK242.out 2; have hfz5_3 := blk_frozen BK242.out 3; have hfz5_4 := blk_frozen BK242.out 4; have hfz5_5 := blk_frozen BK242.out 5; have hfz5_6 := blk_frozen BK242.out 6; have hfz5_7 := blk_frozen BK242.out 7; have hfz5_8 := blk_frozen BK242.out 8) | ((with_reducible refine gate_dst (N := 9) rfl ?_); refine box_event ?hg (N := 9) ?hd (cs := #[.int .i64 0, .int .i64 0, .int .i64 0, .int .i64 0, .int .i64 0]) (t := 33) ?hr ?_; (case hd => rfl); (case hg => rfl); (case hr => first | (go_simp; done) | (go_simp; rfl)); intro gb243 hg w6 hbox hb; have n0_ := Aside0.mk (Kd.R_below (by (with_reducible repeat (first | apply Kd.R_alloc | apply Kd.R_drewN | apply Kd.R_drew)); exact HO0.out) hb); have n1_ := Aside0.mk (blk_below (g := gb242) (o := .cells #[.int .i64 a1_0, .int .i64 a1_1, .int .i64 a1_2, .int .i64 a1_3, .int .i64 a1_4, .int .i64 a1_5, .int .i64 a1_6, .int .i64 a1_7, .int .i64 a1_8] 37 (0, 0)) (by (with_reducible repeat (first | refine blk_drewN ?_ _ | refine blk_drew ?_ | refine blk_alloc ?_ _)); exact BK242.out) hb); have n2_ := Aside0.mk (Kept.below (S := (fun k_ => P0_ k_)) (by repeat (first | (with_reducible first | exact HK.out | apply Kept.alloc | apply Kept.drewN | apply Kept.drew | refine Kept.setCell ?_ (.inr GW242.out) _) | exact HK.out)) hb); have n3_ := Aside0.mk (below_step (by repeat (first | (with_reducible first | exact HB.out | apply below_alloc | apply pw_below_drewN | apply below_drew1 | refine below_set ?_ GE242.out) | exact HB.out)) hb); have n4_ := Aside0.mk (hbox); have n5_ := Aside0.mk ((by rw [hg]; exact (by first | exact HK.out.1 | exact (show Kept w _ (fun k_ => P0_ k_) from by repeat (first | (with_reducible first | exact HK.out | apply Kept.alloc | apply Kept.drewN | apply Kept.drew | refine Kept.setCell ?_ (.inr GW242.out) _) | exact HK.out)).1) : w.heap.size ≤ gb243)); have n6_ := Aside0.mk ((by rw [hg]; exact (below_size (by repeat (first | (with_reducible first | exact HB.out | apply below_alloc | apply pw_below_drewN | apply below_drew1 | refine below_set ?_ GE242.out) | exact HB.out))) : w0.heap.size ≤ gb243)); have n7_ := Aside0.mk ((by rw [hg]; exact Nat.ne_of_lt (blk_lt (g := gb242) (o := .cells #[.int .i64 a1_0, .int .i64 a1_1, .int .i64 a1_2, .int .i64 a1_3, .int .i64 a1_4, .int .i64 a1_5, .int .i64 a1_6, .int .i64 a1_7, .int .i64 a1_8] 37 (0, 0)) (by (with_reducible repeat (first | refine blk_drewN ?_ _ | refine blk_drew ?_ | refine blk_alloc ?_ _)); exact BK242.out)) : gb242 ≠ gb243)); have n8_ := Aside0.mk ((by rw [hg]; exact Nat.ne_of_gt (blk_lt (g := gb242) (o := .cells #[.int .i64 a1_0, .int .i64 a1_1, .int .i64 a1_2, .int .i64 a1_3, .int .i64 a1_4, .int .i64 a1_5, .int .i64 a1_6, .int .i64 a1_7, .int .i64 a1_8] 37 (0, 0)) (by (with_reducible repeat (first | refine blk_drewN ?_ _ | refine blk_drew ?_ | refine blk_alloc ?_ _)); exact BK242.out)) : gb243 ≠ gb242)); clear HO0; clear BK242; clear HK; clear HB; have HO0 := n0_; have BK242 := n1_; have HK := n2_; have HB := n3_; have BK243 := n4_; have GW243 := n5_; have GE243 := n6_; have NB242_243 := n7_; have NB243_242 := n8_; clear n0_ n1_ n2_ n3_ n4_ n5_ n6_ n7_ n8_; clear hb hbox hg; have hnb7 := NB243_242.out; have hnc7 := NB242_243.out; have hcz8_0 : w6.cell? ⟨gb243, 0, none⟩ = some (.int .i64 0) := (blk_cell BK243.out 0).trans rfl; have hcz8_1 : w6.cell? ⟨gb243, 1, none⟩ = some (.int .i64 0) := (blk_cell BK243.out 1).trans rfl; have hcz8_2 : w6.cell? ⟨gb243, 2, none⟩ = some (.int .i64 0) := (blk_cell BK243.out 2).trans rfl; have hcz8_3 : w6.cell? ⟨gb243, 3, none⟩ = some (.int .i64 0) := (blk_cell BK243.out 3).trans rfl; have hcz8_4 : w6.cell? ⟨gb243, 4, none⟩ = some (.int .i64 0) := (blk_cell BK243.out 4).trans rfl; have hfz8_0 := blk_frozen BK243.out 0; have hfz8_1 := blk_frozen BK243.out 1; have hfz8_2 := blk_frozen BK243.out 2; have hfz8_3 := blk_frozen BK243.out 3; have hfz8_4 := blk_frozen BK243.out 4))
 go_loopg [7, 8, 10] k (fun kq v7 v8 v10 w' => ∃ (x7_1 : List Int) (x8_1 : List Int) (x10_1 : Int), v10 = .int .i64 x10_1 ∧ Aside0 (purflingref14_one.l0 kq l0 a2 x7_1 x8_1 x10_1 a1_0 a1_1 a1_2 a1_3 a1_4 a1_5 a1_6 a1_7 a1_8 a1_0 a1_1 a1_2 a1_3 a1_4 = some (r1, r2)) ∧ Aside0 (kq ≤ k) ∧ Aside0 (Kd.R k39 39 w' w0.heap.size (fun k_ => (P0_ k_ ∨ w.heap.size ≤ k_)) u9000_ l0) ∧ Aside0 (Kd.R (Kd.int .i64) 2 w' w0.heap.size (fun k_ => (P0_ k_ ∨ w.heap.size ≤ k_) ∧ some k_ ≠ (v8 : Value).ownBlock) v7 x7_1) ∧ Aside0 (Kd.R (Kd.int .i64) 2 w' w0.heap.size (fun k_ => (P0_ k_ ∨ w.heap.size ≤ k_) ∧ some k_ ≠ (v7 : Value).ownBlock) v8 x8_1) ∧ Aside0 (w'.heap[gb242]? = some (.cells #[.int .i64 a1_0, .int .i64 a1_1, .int .i64 a1_2, .int .i64 a1_3, .int .i64 a1_4, .int .i64 a1_5, .int .i64 a1_6, .int .i64 a1_7, .int .i64 a1_8] 37 (0, 0))) ∧ Aside0 (w'.heap[gb243]? = some (.cells #[.int .i64 a1_0, .int .i64 a1_1, .int .i64 a1_2, .int .i64 a1_3, .int .i64 a1_4] 33 (0, 0))) ∧ Aside0 (Kept w w' (fun k_ => P0_ k_)) ∧ Aside0 (Below w0.heap.size w0 w'))
 case atStart => exact ⟨(([] : List Int)), (([] : List Int)), (a1_2), (by first | rfl | (simp; done) | (simp [*]; done)), H', ⟨Nat.le_refl _⟩, ⟨by (with_reducible repeat (first | apply Kd.R_alloc | apply Kd.R_drewN | apply Kd.R_drew)); exact Kd.R_mono (Kd.R_far (p := ⟨gb243, 4, none⟩) (Kd.R_far (p := ⟨gb243, 3, none⟩) (Kd.R_far (p := ⟨gb243, 2, none⟩) (Kd.R_far (p := ⟨gb243, 1, none⟩) (Kd.R_far (p := ⟨gb243, 0, none⟩) (Kd.R_types HO0.out BK243.out (by decide)) (fun _ hk => hk.2) (.int .i64 a1_0)) (fun _ hk => hk.2) (.int .i64 a1_1)) (fun _ hk => hk.2) (.int .i64 a1_2)) (fun _ hk => hk.2) (.int .i64 a1_3)) (fun _ hk => hk.2) (.int .i64 a1_4)) (fun _ hk => hk.1)⟩, ⟨by first | exact Kd.R_nil _ _ _ _ _ | exact Kd.N_nil _ _ _ _ _ | exact Kd.V_nil _ _ _ _ _ | exact Kd.Q_nil _ _ _ _ _ | exact Kd.S_nil _ _ _ _ _⟩, ⟨by first | exact Kd.R_nil _ _ _ _ _ | exact Kd.N_nil _ _ _ _ _ | exact Kd.V_nil _ _ _ _ _ | exact Kd.Q_nil _ _ _ _ _ | exact Kd.S_nil _ _ _ _ _⟩, ⟨by (with_reducible repeat (first | refine blk_drewN ?_ _ | refine blk_drew ?_ | refine blk_alloc ?_ _)); refine blk_far ?_ NB242_243.out _; (with_reducible repeat (first | refine blk_drewN ?_ _ | refine blk_drew ?_ | refine blk_alloc ?_ _)); refine blk_far ?_ NB242_243.out _; (with_reducible repeat (first | refine blk_drewN ?_ _ | refine blk_drew ?_ | refine blk_alloc ?_ _)); refine blk_far ?_ NB242_243.out _; (with_reducible repeat (first | refine blk_drewN ?_ _ | refine blk_drew ?_ | refine blk_alloc ?_ _)); refine blk_far ?_ NB242_243.out _; (with_reducible repeat (first | refine blk_drewN ?_ _ | refine blk_drew ?_ | refine blk_alloc ?_ _)); refine blk_far ?_ NB242_243.out _; (with_reducible repeat (first | refine blk_drewN ?_ _ | refine blk_drew ?_ | refine blk_alloc ?_ _)); exact BK242.out⟩, ⟨by (with_reducible repeat (first | refine blk_drewN ?_ _ | refine blk_drew ?_ | refine blk_alloc ?_ _)); refine blk_put (cs := #[.int .i64 a1_0, .int .i64 a1_1, .int .i64 a1_2, .int .i64 a1_3, .int .i64 0]) ?_ 4 _ rfl; (with_reducible repeat (first | refine blk_drewN ?_ _ | refine blk_drew ?_ | refine blk_alloc ?_ _)); refine blk_put (cs := #[.int .i64 a1_0, .int .i64 a1_1, .int .i64 a1_2, .int .i64 0, .int .i64 0]) ?_ 3 _ rfl; (with_reducible repeat (first | refine blk_drewN ?_ _ | refine blk_drew ?_ | refine blk_alloc ?_ _)); refine blk_put (cs := #[.int .i64 a1_0, .int .i64 a1_1, .int .i64 0, .int .i64 0, .int .i64 0]) ?_ 2 _ rfl; (with_reducible repeat (first | refine blk_drewN ?_ _ | refine blk_drew ?_ | refine blk_alloc ?_ _)); refine blk_put (cs := #[.int .i64 a1_0, .int .i64 0, .int .i64 0, .int .i64 0, .int .i64 0]) ?_ 1 _ rfl; (with_reducible repeat (first | refine blk_drewN ?_ _ | refine blk_drew ?_ | refine blk_alloc ?_ _)); refine blk_put (cs := #[.int .i64 0, .int .i64 0, .int .i64 0, .int .i64 0, .int .i64 0]) ?_ 0 _ rfl; (with_reducible repeat (first | refine blk_drewN ?_ _ | refine blk_drew ?_ | refine blk_alloc ?_ _)); exact BK243.out⟩, ⟨by repeat (first | (with_reducible first | exact HK.out | apply Kept.alloc | apply Kept.drewN | apply Kept.drew | refine Kept.setCell ?_ (.inr GW242.out) _ | refine Kept.setCell ?_ (.inr GW243.out) _) | exact HK.out)⟩, ⟨by repeat (first | (with_reducible first | exact HB.out | apply below_alloc | apply pw_below_drewN | apply below_drew1 | refine below_set ?_ GE242.out | refine below_set ?_ GE243.out) | exact HB.out)⟩⟩
 case round =>
  clear H'
  try clear p2
  try clear c3
  try clear c7
  try clear hcz5_0
  try clear hcz5_1
  try clear hcz5_2
  try clear hcz5_3
  try clear hcz5_4
  try clear hcz5_5
  try clear hcz5_6
  try clear hcz5_7
  try clear hcz5_8
  try clear hcz8_0
  try clear hcz8_1
  try clear hcz8_2
  try clear hcz8_3
  try clear hcz8_4
  try clear hfz5_0
  try clear hfz5_1
  try clear hfz5_2
  try clear hfz5_3
  try clear hfz5_4
  try clear hfz5_5
  try clear hfz5_6
  try clear hfz5_7
  try clear hfz5_8
  try clear hfz8_0
  try clear hfz8_1
  try clear hfz8_2
  try clear hfz8_3
  try clear hfz8_4
  obtain ⟨x7_1, x8_1, x10_1, rfl, HA, HK1, HO_0, HO_7, HO_8, BK242, BK243, HK, HB⟩ := hrel
  cases gk with
  | zero => exact absurd HA.out (by simp [purflingref14_one.l0])
  | succ k1 =>
   have H := HA.out
   clear HA
   simp only [purflingref14_one.l0] at H
   by_cases c9 : x10_1 < (wrap64 (a1_2 + a1_4))
   ·rw [if_pos c9] at H
    have c9b0 : decide (x10_1 < (wrap64 (a1_2 + a1_4))) = true := decide_eq_true c9
    clear c9
    by_cases c10 : 0 ≤ x10_1
    ·rw [if_pos c10] at H
     have c10b0 : decide (0 ≤ x10_1) = true := decide_eq_true c10
     clear c10
     by_cases c11 : x10_1 < (l0.length : Int)
     ·rw [if_pos c11] at H
      have c11b0 : decide (x10_1 < (l0.length : Int)) = true := decide_eq_true c11
      clear c11
      by_cases c12 : x7_1.length < 17592186044416
      ·rw [if_pos c12] at H
       have LMc12 := Aside0.mk c12
       clear c12
       obtain ⟨y245, hy245⟩ : ∃ y_ : List Int, y_ = (x7_1 ++ [(rd_T39 l0 x10_1).f0]) := ⟨_, rfl⟩
       replace H : (if x8_1.length < 17592186044416 then (purflingref14_one.l0 k1 l0 a2 y245 (x8_1 ++ [(rd_T39 l0 x10_1).f1]) (wrap64 (x10_1 + 1)) a1_0 a1_1 a1_2 a1_3 a1_4 a1_5 a1_6 a1_7 a1_8 a1_0 a1_1 a1_2 a1_3 a1_4) else (none)) = some (r1, r2) := by first | (rw [hy245]; with_reducible exact H) | (have H2_ := (Option.bind_some _ _).symm.trans H; rw [hy245]; with_reducible exact H2_) | (have H2_ := (Option.bind_some _ _).symm.trans H; with_reducible exact H2_) | with_reducible exact H | (rw [hy245]; exact H) | exact H
       have Ny245 := Aside0.mk hy245
       clear hy245
       by_cases c13 : x8_1.length < 17592186044416
       ·rw [if_pos c13] at H
        have LMc13 := Aside0.mk c13
        clear c13
        obtain ⟨y249, hy249⟩ : ∃ y_ : List Int, y_ = (x8_1 ++ [(rd_T39 l0 x10_1).f1]) := ⟨_, rfl⟩
        replace H : (purflingref14_one.l0 k1 l0 a2 y245 y249 (wrap64 (x10_1 + 1)) a1_0 a1_1 a1_2 a1_3 a1_4 a1_5 a1_6 a1_7 a1_8 a1_0 a1_1 a1_2 a1_3 a1_4) = some (r1, r2) := by first | (rw [hy249]; with_reducible exact H) | (have H2_ := (Option.bind_some _ _).symm.trans H; rw [hy249]; with_reducible exact H2_) | (have H2_ := (Option.bind_some _ _).symm.trans H; with_reducible exact H2_) | with_reducible exact H | (rw [hy249]; exact H) | exact H
        have Ny249 := Aside0.mk hy249
        clear hy249
        have H' := Aside0.mk H
        clear H
        have hnb14 := NB243_242.out
        have hnc14 := NB242_243.out
        have hcz15_0 : wr.cell? ⟨gb243, 0, none⟩ = some (.int .i64 a1_0) := (blk_cell BK243.out 0).trans rfl
        have hcz15_1 : wr.cell? ⟨gb243, 1, none⟩ = some (.int .i64 a1_1) := (blk_cell BK243.out 1).trans rfl
        have hcz15_2 : wr.cell? ⟨gb243, 2, none⟩ = some (.int .i64 a1_2) := (blk_cell BK243.out 2).trans rfl
        have hcz15_3 : wr.cell? ⟨gb243, 3, none⟩ = some (.int .i64 a1_3) := (blk_cell BK243.out 3).trans rfl
        have hcz15_4 : wr.cell? ⟨gb243, 4, none⟩ = some (.int .i64 a1_4) := (blk_cell BK243.out 4).trans rfl
        have hfz15_0 := blk_frozen BK243.out 0
        have hfz15_1 := blk_frozen BK243.out 1
        have hfz15_2 := blk_frozen BK243.out 2
        have hfz15_3 := blk_frozen BK243.out 3
        have hfz15_4 := blk_frozen BK243.out 4
        obtain ⟨Ao16, co16, eo16⟩ := Kd.R_slice HO_0.out
        subst eo16
        have p244 : 0 ≤ (x10_1 : Int) := of_decide_eq_true (by first | (with_reducible assumption) | assumption)
        have q244 : x10_1 < (l0.length : Int) := of_decide_eq_true (by first | (with_reducible assumption) | assumption)
        obtain ⟨ad244, e244, hx244_0, hx244_1, hx244_2, hx244_3⟩ := at_T39 (Kd.R_reads' HO_0.out).2.2 x10_1 p244 q244
        cases e244
        replace p244 := eq_true p244
        replace q244 := eq_true q244
        go_wp2_with (first | ((with_reducible refine gate_builtin (b := .append) (xs := #[.tmp 31, .tmp 37]) rfl ?_); at_builtin; refine Kd.R_append (Kd.int .i64) (w0 := w0) w0.heap.size rfl (.tmp 31) (.tmp 37) 46 2 (.int .i64 0) 8 rfl Try.underlying46 info2 rfl (by decide) (by omega) u7 x7_1 ((rd_T39 l0 x10_1).f0) [.int .i64 ((rd_T39 l0 x10_1).f0)] (fun k_ => (P0_ k_ ∨ w.heap.size ≤ k_) ∧ some k_ ≠ (u8 : Value).ownBlock) (fun _ => False) rfl rfl ?aP (fun _ hk => hk.elim) ?aF ?aO ?aB ?aS ?aL ?_; (case aP => exact rfl); (case aB => exact (by repeat (first | (with_reducible first | exact HB.out | apply below_alloc | apply pw_below_drewN | apply below_drew1 | refine below_set ?_ GE242.out | refine below_set ?_ GE243.out) | exact HB.out))); (case aF => exact (fun k_ hk => ⟨(.inr (Nat.le_trans (by first | exact HK.out.1 | exact (show Kept w _ (fun k_ => P0_ k_) from by repeat (first | (with_reducible first | exact HK.out | apply Kept.alloc | apply Kept.drewN | apply Kept.drew | refine Kept.setCell ?_ (.inr GW242.out) _ | refine Kept.setCell ?_ (.inr GW243.out) _) | exact HK.out)).1) hk)), Kd.fresh' (Kd.R_lt (by (with_reducible repeat (first | apply Kd.R_alloc | apply Kd.R_drewN | apply Kd.R_drew)); exact HO_8.out)) k_ hk⟩)); (case aO => exact (by (with_reducible repeat (first | apply Kd.R_alloc | apply Kd.R_drewN | apply Kd.R_drew)); exact HO_7.out)); (case aS => exact (below_size (by repeat (first | (with_reducible first | exact HB.out | apply below_alloc | apply pw_below_drewN | apply below_drew1 | refine below_set ?_ GE242.out | refine below_set ?_ GE243.out) | exact HB.out)))); (case aL => have := LMc12.out; omega); intro v246 w17 ho hb hg hat; rw [← Ny245.out] at ho; have n0_ := Aside0.mk (Kd.R_over' (by (with_reducible repeat (first | apply Kd.R_alloc | apply Kd.R_drewN | apply Kd.R_drew)); exact HO_0.out) (Kd.R_typed (by (with_reducible repeat (first | apply Kd.R_alloc | apply Kd.R_drewN | apply Kd.R_drew)); exact HO_7.out)) (by decide) hg); have n1_ := Aside0.mk (Kd.R_after (ok := (fun k_ => (P0_ k_ ∨ w.heap.size ≤ k_))) (by (with_reducible repeat (first | apply Kd.R_alloc | apply Kd.R_drewN | apply Kd.R_drew)); exact HO_8.out) hg hat); have n2_ := Aside0.mk (blk_grown (g := gb242) (o := .cells #[.int .i64 a1_0, .int .i64 a1_1, .int .i64 a1_2, .int .i64 a1_3, .int .i64 a1_4, .int .i64 a1_5, .int .i64 a1_6, .int .i64 a1_7, .int .i64 a1_8] 37 (0, 0)) (by (with_reducible repeat (first | refine blk_drewN ?_ _ | refine blk_drew ?_ | refine blk_alloc ?_ _)); exact BK242.out) hg (Kd.R_ne HO_7.out BK242.out (by decide))); have n3_ := Aside0.mk (blk_grown (g := gb243) (o := .cells #[.int .i64 a1_0, .int .i64 a1_1, .int .i64 a1_2, .int .i64 a1_3, .int .i64 a1_4] 33 (0, 0)) (by (with_reducible repeat (first | refine blk_drewN ?_ _ | refine blk_drew ?_ | refine blk_alloc ?_ _)); exact BK243.out) hg (Kd.R_ne HO_7.out BK243.out (by decide))); have n4_ := Aside0.mk (hb); have n5_ := Aside0.mk (Kept.of_grown (S := (fun k_ => P0_ k_)) hg (by repeat (first | (with_reducible first | exact HK.out | apply Kept.alloc | apply Kept.drewN | apply Kept.drew | refine Kept.setCell ?_ (.inr GW242.out) _ | refine Kept.setCell ?_ (.inr GW243.out) _) | exact HK.out)) (fun k_ e_ => (HO_7.out.1 k_ e_).1)); have n6_ := Aside0.mk (ho); clear HO_0; clear HO_8; clear BK242; clear BK243; clear HB; clear HK; clear HO_7; have HO_0 := n0_; have HO_8 := n1_; have BK242 := n2_; have BK243 := n3_; have HB := n4_; have HK := n5_; have HO247 := n6_; clear n0_ n1_ n2_ n3_ n4_ n5_ n6_; clear ho hb hg hat; have p248 : 0 ≤ (x10_1 : Int) := of_decide_eq_true (by first | (with_reducible assumption) | assumption); have q248 : x10_1 < (l0.length : Int) := of_decide_eq_true (by first | (with_reducible assumption) | assumption); obtain ⟨ad248, e248, hx248_0, hx248_1, hx248_2, hx248_3⟩ := at_T39 (Kd.R_reads' HO_0.out).2.2 x10_1 p248 q248; obtain rfl : ad244 = ad248 := (by injection e248); replace p248 := eq_true p248; replace q248 := eq_true q248) | ((with_reducible refine gate_builtin (b := .append) (xs := #[.tmp 39, .tmp 45]) rfl ?_); at_builtin; refine Kd.R_append (Kd.int .i64) (w0 := w0) w0.heap.size rfl (.tmp 39) (.tmp 45) 46 2 (.int .i64 0) 8 rfl Try.underlying46 info2 rfl (by decide) (by omega) u8 x8_1 ((rd_T39 l0 x10_1).f1) [.int .i64 ((rd_T39 l0 x10_1).f1)] (fun k_ => (P0_ k_ ∨ w.heap.size ≤ k_) ∧ some k_ ≠ (v246 : Value).ownBlock) (fun _ => False) rfl rfl ?aP (fun _ hk => hk.elim) ?aF ?aO ?aB ?aS ?aL ?_; (case aP => exact rfl); (case aB => exact (by repeat (first | (with_reducible first | exact HB.out | apply below_alloc | apply pw_below_drewN | apply below_drew1 | refine below_set ?_ GE242.out | refine below_set ?_ GE243.out) | exact HB.out))); (case aF => exact (fun k_ hk => ⟨(.inr (Nat.le_trans (by first | exact HK.out.1 | exact (show Kept w _ (fun k_ => P0_ k_) from by repeat (first | (with_reducible first | exact HK.out | apply Kept.alloc | apply Kept.drewN | apply Kept.drew | refine Kept.setCell ?_ (.inr GW242.out) _ | refine Kept.setCell ?_ (.inr GW243.out) _) | exact HK.out)).1) hk)), Kd.fresh' (Kd.R_lt (by (with_reducible repeat (first | apply Kd.R_alloc | apply Kd.R_drewN | apply Kd.R_drew)); exact HO247.out)) k_ hk⟩)); (case aO => exact (by (with_reducible repeat (first | apply Kd.R_alloc | apply Kd.R_drewN | apply Kd.R_drew)); exact HO_8.out)); (case aS => exact (below_size (by repeat (first | (with_reducible first | exact HB.out | apply below_alloc | apply pw_below_drewN | apply below_drew1 | refine below_set ?_ GE242.out | refine below_set ?_ GE243.out) | exact HB.out)))); (case aL => have := LMc13.out; omega); intro v250 w18 ho hb hg hat; rw [← Ny249.out] at ho; have n0_ := Aside0.mk (Kd.R_over' (by (with_reducible repeat (first | apply Kd.R_alloc | apply Kd.R_drewN | apply Kd.R_drew)); exact HO_0.out) (Kd.R_typed (by (with_reducible repeat (first | apply Kd.R_alloc | apply Kd.R_drewN | apply Kd.R_drew)); exact HO_8.out)) (by decide) hg); have n1_ := Aside0.mk (blk_grown (g := gb242) (o := .cells #[.int .i64 a1_0, .int .i64 a1_1, .int .i64 a1_2, .int .i64 a1_3, .int .i64 a1_4, .int .i64 a1_5, .int .i64 a1_6, .int .i64 a1_7, .int .i64 a1_8] 37 (0, 0)) (by (with_reducible repeat (first | refine blk_drewN ?_ _ | refine blk_drew ?_ | refine blk_alloc ?_ _)); exact BK242.out) hg (Kd.R_ne HO_8.out BK242.out (by decide))); have n2_ := Aside0.mk (blk_grown (g := gb243) (o := .cells #[.int .i64 a1_0, .int .i64 a1_1, .int .i64 a1_2, .int .i64 a1_3, .int .i64 a1_4] 33 (0, 0)) (by (with_reducible repeat (first | refine blk_drewN ?_ _ | refine blk_drew ?_ | refine blk_alloc ?_ _)); exact BK243.out) hg (Kd.R_ne HO_8.out BK243.out (by decide))); have n3_ := Aside0.mk (Kd.R_after (ok := (fun k_ => (P0_ k_ ∨ w.heap.size ≤ k_))) (by (with_reducible repeat (first | apply Kd.R_alloc | apply Kd.R_drewN | apply Kd.R_drew)); exact HO247.out) hg hat); have n4_ := Aside0.mk (hb); have n5_ := Aside0.mk (Kept.of_grown (S := (fun k_ => P0_ k_)) hg (by repeat (first | (with_reducible first | exact HK.out | apply Kept.alloc | apply Kept.drewN | apply Kept.drew | refine Kept.setCell ?_ (.inr GW242.out) _ | refine Kept.setCell ?_ (.inr GW243.out) _) | exact HK.out)) (fun k_ e_ => (HO_8.out.1 k_ e_).1)); have n6_ := Aside0.mk (ho); clear HO_0; clear BK242; clear BK243; clear HO247; clear HB; clear HK; clear HO_8; have HO_0 := n0_; have BK242 := n1_; have BK243 := n2_; have HO247 := n3_; have HB := n4_; have HK := n5_; have HO251 := n6_; clear n0_ n1_ n2_ n3_ n4_ n5_ n6_; clear ho hb hg hat))
        go_roundg k1
        case measure => have := HK1.out; omega
        case rel => exact ⟨(y245), (y249), (wrap64 (x10_1 + 1)), (by first | rfl | (simp; done) | (simp [*]; done)), H', ⟨by have := HK1.out; omega⟩, ⟨by (with_reducible repeat (first | apply Kd.R_alloc | apply Kd.R_drewN | apply Kd.R_drew)); exact HO_0.out⟩, ⟨by (with_reducible repeat (first | apply Kd.R_alloc | apply Kd.R_drewN | apply Kd.R_drew)); exact HO247.out⟩, ⟨by (with_reducible repeat (first | apply Kd.R_alloc | apply Kd.R_drewN | apply Kd.R_drew)); exact HO251.out⟩, ⟨by (with_reducible repeat (first | refine blk_drewN ?_ _ | refine blk_drew ?_ | refine blk_alloc ?_ _)); exact BK242.out⟩, ⟨by (with_reducible repeat (first | refine blk_drewN ?_ _ | refine blk_drew ?_ | refine blk_alloc ?_ _)); exact BK243.out⟩, ⟨by repeat (first | (with_reducible first | exact HK.out | apply Kept.alloc | apply Kept.drewN | apply Kept.drew | refine Kept.setCell ?_ (.inr GW242.out) _ | refine Kept.setCell ?_ (.inr GW243.out) _) | exact HK.out)⟩, ⟨by repeat (first | (with_reducible first | exact HB.out | apply below_alloc | apply pw_below_drewN | apply below_drew1 | refine below_set ?_ GE242.out | refine below_set ?_ GE243.out) | exact HB.out)⟩⟩
       ·rw [if_neg c13] at H
        exact absurd H (by simp)
      ·rw [if_neg c12] at H
       exact absurd H (by simp)
     ·rw [if_neg c11] at H
      exact absurd H (by simp)
    ·rw [if_neg c10] at H
     exact absurd H (by simp)
   ·rw [if_neg c9] at H
    have c9b0 : decide (x10_1 < (wrap64 (a1_2 + a1_4))) = false := decide_eq_false c9
    clear c9
    replace H := Option.bind_eq_some_iff.mp H
    obtain ⟨t252, A190, H⟩ := H
    replace H : ((purflingref14_Over.f k1 t252 x7_1 x8_1).bind fun bt253 => (if bt253.2 = 0 then (purflingref14_one.l1 k1 l0 a2 x8_1 bt253.1 0 a1_0 a1_1 a1_2 a1_3 a1_4 a1_5 a1_6 a1_7 a1_8 a1_0 a1_1 a1_2 a1_3 a1_4) else (some (false, l0)))) = some (r1, r2) := H
    have A19 := Aside0.mk A190
    clear A190
    replace H := Option.bind_eq_some_iff.mp H
    obtain ⟨⟨t253, t254⟩, A200, H⟩ := H
    replace H : (if t254 = 0 then (purflingref14_one.l1 k1 l0 a2 x8_1 t253 0 a1_0 a1_1 a1_2 a1_3 a1_4 a1_5 a1_6 a1_7 a1_8 a1_0 a1_1 a1_2 a1_3 a1_4) else (some (false, l0))) = some (r1, r2) := H
    have A20 := Aside0.mk A200
    clear A200
    by_cases c21 : t254 = 0
    ·rw [if_pos c21] at H
     have c21b0 : (t254 == 0) = true := beq_iff_eq.mpr c21
     have c21b1 : (t254 != 0) = false := bne_eq_false_iff_eq.mpr c21
     clear c21
     have H' := Aside0.mk H
     clear H
     have hnb22 := NB243_242.out
     have hnc22 := NB242_243.out
     have hcz23_0 : wr.cell? ⟨gb243, 0, none⟩ = some (.int .i64 a1_0) := (blk_cell BK243.out 0).trans rfl
     have hcz23_1 : wr.cell? ⟨gb243, 1, none⟩ = some (.int .i64 a1_1) := (blk_cell BK243.out 1).trans rfl
     have hcz23_2 : wr.cell? ⟨gb243, 2, none⟩ = some (.int .i64 a1_2) := (blk_cell BK243.out 2).trans rfl
     have hcz23_3 : wr.cell? ⟨gb243, 3, none⟩ = some (.int .i64 a1_3) := (blk_cell BK243.out 3).trans rfl
     have hcz23_4 : wr.cell? ⟨gb243, 4, none⟩ = some (.int .i64 a1_4) := (blk_cell BK243.out 4).trans rfl
     have hfz23_0 := blk_frozen BK243.out 0
     have hfz23_1 := blk_frozen BK243.out 1
     have hfz23_2 := blk_frozen BK243.out 2
     have hfz23_3 := blk_frozen BK243.out 3
     have hfz23_4 := blk_frozen BK243.out 4
     have hcz24_0 : wr.cell? ⟨gb242, 0, none⟩ = some (.int .i64 a1_0) := (blk_cell BK242.out 0).trans rfl
     have hcz24_1 : wr.cell? ⟨gb242, 1, none⟩ = some (.int .i64 a1_1) := (blk_cell BK242.out 1).trans rfl
     have hcz24_2 : wr.cell? ⟨gb242, 2, none⟩ = some (.int .i64 a1_2) := (blk_cell BK242.out 2).trans rfl
     have hcz24_3 : wr.cell? ⟨gb242, 3, none⟩ = some (.int .i64 a1_3) := (blk_cell BK242.out 3).trans rfl
     have hcz24_4 : wr.cell? ⟨gb242, 4, none⟩ = some (.int .i64 a1_4) := (blk_cell BK242.out 4).trans rfl
     have hcz24_5 : wr.cell? ⟨gb242, 5, none⟩ = some (.int .i64 a1_5) := (blk_cell BK242.out 5).trans rfl
     have hcz24_6 : wr.cell? ⟨gb242, 6, none⟩ = some (.int .i64 a1_6) := (blk_cell BK242.out 6).trans rfl
     have hcz24_7 : wr.cell? ⟨gb242, 7, none⟩ = some (.int .i64 a1_7) := (blk_cell BK242.out 7).trans rfl
     have hcz24_8 : wr.cell? ⟨gb242, 8, none⟩ = some (.int .i64 a1_8) := (blk_cell BK242.out 8).trans rfl
     have hfz24_0 := blk_frozen BK242.out 0
     have hfz24_1 := blk_frozen BK242.out 1
     have hfz24_2 := blk_frozen BK242.out 2
     have hfz24_3 := blk_frozen BK242.out 3
     have hfz24_4 := blk_frozen BK242.out 4
     have hfz24_5 := blk_frozen BK242.out 5
     have hfz24_6 := blk_frozen BK242.out 6
     have hfz24_7 := blk_frozen BK242.out 7
     have hfz24_8 := blk_frozen BK242.out 8
     go_wp2_with (first | ((with_reducible refine gate_callee (f := 49) rfl ?_); refine goesL_ (some 53) rfl rfl Try.func49 (by kernel_rfl) rfl #[.int .i64 a1_5, .int .i64 a2, .int .i64 a1_4] rfl (by (try simp only [List.map_toArray, List.map_cons, List.map_nil]); first | done | rfl | (simp only [List.length_drop, List.length_take]; rfl)) ?_; (with_reducible refine (purflingref14_Part.calls k1 a1_5 a2 a1_4 t252 _ A19.out).mono ?_); rintro e w25 ⟨rfl, hb⟩; refine ⟨_, rfl, ?_⟩; have n0_ := Aside0.mk (Kd.R_below (by (with_reducible repeat (first | apply Kd.R_alloc | apply Kd.R_drewN | apply Kd.R_drew)); exact HO_0.out) hb); have n1_ := Aside0.mk (Kd.R_below (by (with_reducible repeat (first | apply Kd.R_alloc | apply Kd.R_drewN | apply Kd.R_drew)); exact HO_7.out) hb); have n2_ := Aside0.mk (Kd.R_below (by (with_reducible repeat (first | apply Kd.R_alloc | apply Kd.R_drewN | apply Kd.R_drew)); exact HO_8.out) hb); have n3_ := Aside0.mk (blk_below (g := gb242) (o := .cells #[.int .i64 a1_0, .int .i64 a1_1, .int .i64 a1_2, .int .i64 a1_3, .int .i64 a1_4, .int .i64 a1_5, .int .i64 a1_6, .int .i64 a1_7, .int .i64 a1_8] 37 (0, 0)) (by (with_reducible repeat (first | refine blk_drewN ?_ _ | refine blk_drew ?_ | refine blk_alloc ?_ _)); exact BK242.out) hb); have n4_ := Aside0.mk (blk_below (g := gb243) (o := .cells #[.int .i64 a1_0, .int .i64 a1_1, .int .i64 a1_2, .int .i64 a1_3, .int .i64 a1_4] 33 (0, 0)) (by (with_reducible repeat (first | refine blk_drewN ?_ _ | refine blk_drew ?_ | refine blk_alloc ?_ _)); exact BK243.out) hb); have n5_ := Aside0.mk (Kept.below (S := (fun k_ => P0_ k_)) (by repeat (first | (with_reducible first | exact HK.out | apply Kept.alloc | apply Kept.drewN | apply Kept.drew | refine Kept.setCell ?_ (.inr GW242.out) _ | refine Kept.setCell ?_ (.inr GW243.out) _) | exact HK.out)) hb); have n6_ := Aside0.mk (below_step (by repeat (first | (with_reducible first | exact HB.out | apply below_alloc | apply pw_below_drewN | apply below_drew1 | refine below_set ?_ GE242.out | refine below_set ?_ GE243.out) | exact HB.out)) hb); clear HO_0; clear HO_7; clear HO_8; clear BK242; clear BK243; clear HK; clear HB; have HO_0 := n0_; have HO_7 := n1_; have HO_8 := n2_; have BK242 := n3_; have BK243 := n4_; have HK := n5_; have HB := n6_; clear n0_ n1_ n2_ n3_ n4_ n5_ n6_; (try clear hb); (try clear hb2); (try clear hk); (try clear hi); obtain ⟨Ao26, co26, eo26⟩ := Kd.R_slice HO_7.out; subst eo26; obtain ⟨Ao27, co27, eo27⟩ := Kd.R_slice HO_8.out; subst eo27) | ((with_reducible refine gate_callee (f := 48) rfl ?_); refine goesL_ (some 56) rfl rfl Try.func48 (by kernel_rfl) rfl #[.int .i64 t252, .slice Ao26 x7_1.length co26, .slice Ao27 x8_1.length co27] rfl (by (try simp only [List.map_toArray, List.map_cons, List.map_nil]); first | done | rfl | (simp only [List.length_drop, List.length_take]; rfl)) ?_; (with_reducible refine (purflingref14_Over.calls k1 t252 _ _ x7_1 _ _ x8_1 t253 t254 _ ?side1 ?side2 ?side3 ?side4 A20.out).mono ?_); (case side1 => repeat (first | exact (Kd.R_reads' HO_7.out).2.2 | (with_reducible refine Kd.C_alloc ?_ _) | (with_reducible refine Kd.C_drewN ?_ _) | (with_reducible refine Kd.C_drew ?_))); (case side2 => exact (Kd.R_reads' HO_7.out).2.1); (case side3 => repeat (first | exact (Kd.R_reads' HO_8.out).2.2 | (with_reducible refine Kd.C_alloc ?_ _) | (with_reducible refine Kd.C_drewN ?_ _) | (with_reducible refine Kd.C_drew ?_))); (case side4 => exact (Kd.R_reads' HO_8.out).2.1); rintro e w28 ⟨v255, rfl, ho0, hb⟩; refine ⟨_, rfl, ?_⟩; have n0_ := Aside0.mk (Kd.R_below (by (with_reducible repeat (first | apply Kd.R_alloc | apply Kd.R_drewN | apply Kd.R_drew)); exact HO_0.out) hb); have n1_ := Aside0.mk (Kd.R_elder' (by (with_reducible repeat (first | apply Kd.R_alloc | apply Kd.R_drewN | apply Kd.R_drew)); exact HO_7.out) (Kd.R_base ho0) hb); have n2_ := Aside0.mk (Kd.R_elder' (by (with_reducible repeat (first | apply Kd.R_alloc | apply Kd.R_drewN | apply Kd.R_drew)); exact HO_8.out) (Kd.R_base ho0) hb); have n3_ := Aside0.mk (Kd.R_lower (Kd.R_new' (Kd.R_new' (Kd.R_newM (M := fun k_ => (P0_ k_ ∨ w.heap.size ≤ k_)) ho0 (by first | exact HK.out.1 | exact (show Kept w _ (fun k_ => P0_ k_) from by repeat (first | (with_reducible first | exact HK.out | apply Kept.alloc | apply Kept.drewN | apply Kept.drew | refine Kept.setCell ?_ (.inr GW242.out) _ | refine Kept.setCell ?_ (.inr GW243.out) _) | exact HK.out)).1) (fun k_ h_ => .inr h_)) (Kd.R_lt (by (with_reducible repeat (first | apply Kd.R_alloc | apply Kd.R_drewN | apply Kd.R_drew)); exact HO_7.out))) (Kd.R_lt (by (with_reducible repeat (first | apply Kd.R_alloc | apply Kd.R_drewN | apply Kd.R_drew)); exact HO_8.out))) (below_size (by repeat (first | (with_reducible first | exact HB.out | apply below_alloc | apply pw_below_drewN | apply below_drew1 | refine below_set ?_ GE242.out | refine below_set ?_ GE243.out) | exact HB.out)))); have n4_ := Aside0.mk (blk_below (g := gb242) (o := .cells #[.int .i64 a1_0, .int .i64 a1_1, .int .i64 a1_2, .int .i64 a1_3, .int .i64 a1_4, .int .i64 a1_5, .int .i64 a1_6, .int .i64 a1_7, .int .i64 a1_8] 37 (0, 0)) (by (with_reducible repeat (first | refine blk_drewN ?_ _ | refine blk_drew ?_ | refine blk_alloc ?_ _)); exact BK242.out) hb); have n5_ := Aside0.mk (blk_below (g := gb243) (o := .cells #[.int .i64 a1_0, .int .i64 a1_1, .int .i64 a1_2, .int .i64 a1_3, .int .i64 a1_4] 33 (0, 0)) (by (with_reducible repeat (first | refine blk_drewN ?_ _ | refine blk_drew ?_ | refine blk_alloc ?_ _)); exact BK243.out) hb); have n6_ := Aside0.mk (Kept.below (S := (fun k_ => P0_ k_)) (by repeat (first | (with_reducible first | exact HK.out | apply Kept.alloc | apply Kept.drewN | apply Kept.drew | refine Kept.setCell ?_ (.inr GW242.out) _ | refine Kept.setCell ?_ (.inr GW243.out) _) | exact HK.out)) hb); have n7_ := Aside0.mk (below_step (by repeat (first | (with_reducible first | exact HB.out | apply below_alloc | apply pw_below_drewN | apply below_drew1 | refine below_set ?_ GE242.out | refine below_set ?_ GE243.out) | exact HB.out)) hb); clear HO_0; clear HO_7; clear HO_8; clear BK242; clear BK243; clear HK; clear HB; have HO_0 := n0_; have HO_7 := n1_; have HO_8 := n2_; have HO256 := n3_; have BK242 := n4_; have BK243 := n5_; have HK := n6_; have HB := n7_; clear n0_ n1_ n2_ n3_ n4_ n5_ n6_ n7_; (try clear hb); (try clear hb2); (try clear hk); (try clear hi); (try clear ho0)))
     go_loopg [13] k1 (fun kq v13 w' => ∃ (x0_2 : List (S39)) (x8_2 : List Int) (x13_2 : Int), v13 = .int .i64 x13_2 ∧ Aside0 (purflingref14_one.l1 kq x0_2 a2 x8_2 t253 x13_2 a1_0 a1_1 a1_2 a1_3 a1_4 a1_5 a1_6 a1_7 a1_8 a1_0 a1_1 a1_2 a1_3 a1_4 = some (r1, r2)) ∧ Aside0 (kq ≤ k1) ∧ Aside0 (Kd.R k39 39 w' w0.heap.size (fun k_ => (P0_ k_ ∨ w.heap.size ≤ k_)) u9000_ x0_2) ∧ Aside0 (Kd.R (Kd.int .i64) 2 w' w0.heap.size (fun k_ => (P0_ k_ ∨ w.heap.size ≤ k_) ∧ some k_ ≠ (v255 : Value).ownBlock) (.slice Ao27 x8_1.length co27) x8_2) ∧ Aside0 (Kd.R (Kd.int .i64) 2 w' w0.heap.size (fun k_ => (P0_ k_ ∨ w.heap.size ≤ k_) ∧ some k_ ≠ ((.slice Ao27 x8_1.length co27) : Value).ownBlock) v255 t253) ∧ Aside0 (w'.heap[gb242]? = some (.cells #[.int .i64 a1_0, .int .i64 a1_1, .int .i64 a1_2, .int .i64 a1_3, .int .i64 a1_4, .int .i64 a1_5, .int .i64 a1_6, .int .i64 a1_7, .int .i64 a1_8] 37 (0, 0))) ∧ Aside0 (w'.heap[gb243]? = some (.cells #[.int .i64 a1_0, .int .i64 a1_1, .int .i64 a1_2, .int .i64 a1_3, .int .i64 a1_4] 33 (0, 0))) ∧ Aside0 (Kept w w' (fun k_ => P0_ k_)) ∧ Aside0 (Below w0.heap.size w0 w'))
     case atStart => exact ⟨(l0), (x8_1), (0), (by first | rfl | (simp; done) | (simp [*]; done)), H', ⟨Nat.le_refl _⟩, ⟨by (with_reducible repeat (first | apply Kd.R_alloc | apply Kd.R_drewN | apply Kd.R_drew)); exact HO_0.out⟩, ⟨by (with_reducible repeat (first | apply Kd.R_alloc | apply Kd.R_drewN | apply Kd.R_drew)); exact Kd.R_mono HO_8.out (fun _ hk => ⟨hk.1.1, hk.2⟩)⟩, ⟨by (with_reducible repeat (first | apply Kd.R_alloc | apply Kd.R_drewN | apply Kd.R_drew)); exact Kd.R_mono HO256.out (fun _ hk => ⟨hk.1.1.1, hk.2⟩)⟩, ⟨by (with_reducible repeat (first | refine blk_drewN ?_ _ | refine blk_drew ?_ | refine blk_alloc ?_ _)); exact BK242.out⟩, ⟨by (with_reducible repeat (first | refine blk_drewN ?_ _ | refine blk_drew ?_ | refine blk_alloc ?_ _)); exact BK243.out⟩, ⟨by repeat (first | (with_reducible first | exact HK.out | apply Kept.alloc | apply Kept.drewN | apply Kept.drew | refine Kept.setCell ?_ (.inr GW242.out) _ | refine Kept.setCell ?_ (.inr GW243.out) _) | exact HK.out)⟩, ⟨by repeat (first | (with_reducible first | exact HB.out | apply below_alloc | apply pw_below_drewN | apply below_drew1 | refine below_set ?_ GE242.out | refine below_set ?_ GE243.out) | exact HB.out)⟩⟩
     case round =>
      clear H'
      try clear c1
      try clear c2
      try clear p2
      try clear q2
      try clear hx2
      try clear c3
      try clear c4
      try clear p6
      try clear c7
      try clear c9
      try clear c9b0
      try clear c10
      try clear c10b0
      try clear c11
      try clear c11b0
      try clear c12
      try clear c13
      try clear c14
      try clear c21
      try clear c21b0
      try clear c21b1
      try clear c22
      try clear p24
      try clear q24
      try clear hx24
      try clear hcz15_0
      try clear hcz15_1
      try clear hcz15_2
      try clear hcz15_3
      try clear hcz15_4
      try clear hcz23_0
      try clear hcz23_1
      try clear hcz23_2
      try clear hcz23_3
      try clear hcz23_4
      try clear hcz24_0
      try clear hcz24_1
      try clear hcz24_2
      try clear hcz24_3
      try clear hcz24_4
      try clear hcz24_5
      try clear hcz24_6
      try clear hcz24_7
      try clear hcz24_8
      try clear hcz5_0
      try clear hcz5_1
      try clear hcz5_2
      try clear hcz5_3
      try clear hcz5_4
      try clear hcz5_5
      try clear hcz5_6
      try clear hcz5_7
      try clear hcz5_8
      try clear hcz8_0
      try clear hcz8_1
      try clear hcz8_2
      try clear hcz8_3
      try clear hcz8_4
      try clear hfz15_0
      try clear hfz15_1
      try clear hfz15_2
      try clear hfz15_3
      try clear hfz15_4
      try clear hfz23_0
      try clear hfz23_1
      try clear hfz23_2
      try clear hfz23_3
      try clear hfz23_4
      try clear hfz24_0
      try clear hfz24_1
      try clear hfz24_2
      try clear hfz24_3
      try clear hfz24_4
      try clear hfz24_5
      try clear hfz24_6
      try clear hfz24_7
      try clear hfz24_8
      try clear hfz5_0
      try clear hfz5_1
      try clear hfz5_2
      try clear hfz5_3
      try clear hfz5_4
      try clear hfz5_5
      try clear hfz5_6
      try clear hfz5_7
      try clear hfz5_8
      try clear hfz8_0
      try clear hfz8_1
      try clear hfz8_2
      try clear hfz8_3
      try clear hfz8_4
      try clear hx244_0
      try clear hx244_1
      try clear hx244_2
      try clear hx244_3
      try clear hx248_0
      try clear hx248_1
      try clear hx248_2
      try clear hx248_3
      try clear p2
      try clear p244
      try clear p248
      try clear q244
      try clear q248
      obtain ⟨x0_2, x8_2, x13_2, rfl, HA, HK2, HO_0, HO_8, HO_11, BK242, BK243, HK, HB⟩ := hrel
      have hl8_2 := (Kd.R_reads' HO_8.out).1
      rw [hl8_2] at HO_8
      (try simp only [hl8_2])
      (try simp only [hl8_2] at BK242)
      (try simp only [hl8_2] at BK243)
      (try simp only [hl8_2] at HO_0)
      (try simp only [hl8_2] at HO_11)
      cases gk with
      | zero => exact absurd HA.out (by simp [purflingref14_one.l1])
      | succ k2 =>
       have H := HA.out
       clear HA
       simp only [purflingref14_one.l1] at H
       by_cases c29 : x13_2 < a1_4
       ·rw [if_pos c29] at H
        have c29b0 : decide (x13_2 < a1_4) = true := decide_eq_true c29
        clear c29
        by_cases c30 : 0 ≤ x13_2
        ·rw [if_pos c30] at H
         have c30b0 : decide (0 ≤ x13_2) = true := decide_eq_true c30
         clear c30
         by_cases c31 : x13_2 < (t253.length : Int)
         ·rw [if_pos c31] at H
          have c31b0 : decide (x13_2 < (t253.length : Int)) = true := decide_eq_true c31
          clear c31
          obtain ⟨ji32, hji32⟩ : ∃ j_ : Int, (wrap64 (a1_2 + x13_2)) = j_ := ⟨_, rfl⟩
          replace H : (if 0 ≤ (ji32) then (if (ji32) < (x0_2.length : Int) then ((some (x0_2.set ((ji32) : Int).toNat (⟨rd t253 x13_2, (rd_T39 x0_2 (ji32)).f1, (rd_T39 x0_2 (ji32)).f2, (rd_T39 x0_2 (ji32)).f3⟩ : S39) : List (S39))).bind fun y258 => (if x13_2 < (x8_2.length : Int) then (purflingref14_one.l1 k2 (y258.set ((ji32) : Int).toNat (⟨(rd_T39 y258 (ji32)).f0, mx (rd x8_2 x13_2) (rd t253 x13_2), (rd_T39 y258 (ji32)).f2, (rd_T39 y258 (ji32)).f3⟩ : S39)) a2 (x8_2.set (x13_2 : Int).toNat (mx (rd x8_2 x13_2) (rd t253 x13_2))) t253 (wrap64 (x13_2 + 1)) a1_0 a1_1 a1_2 a1_3 a1_4 a1_5 a1_6 a1_7 a1_8 a1_0 a1_1 a1_2 a1_3 a1_4) else (none))) else (none)) else (none)) = some (r1, r2) := by first | (rw [hji32] at H; exact H) | (simp only [hji32] at H ⊢; exact H)
          have hji32w : (IntKind.i64.wrap (a1_2 + x13_2)) = ji32 := (i64_w _).trans hji32
          by_cases c33 : 0 ≤ (ji32)
          ·rw [if_pos c33] at H
           have c33b0 : decide (0 ≤ (ji32)) = true := decide_eq_true c33
           clear c33
           by_cases c34 : (ji32) < (x0_2.length : Int)
           ·rw [if_pos c34] at H
            have c34b0 : decide ((ji32) < (x0_2.length : Int)) = true := decide_eq_true c34
            clear c34
            obtain ⟨y258, hy258⟩ : ∃ y_ : List (S39), y_ = (x0_2.set ((ji32) : Int).toNat (⟨rd t253 x13_2, (rd_T39 x0_2 (ji32)).f1, (rd_T39 x0_2 (ji32)).f2, (rd_T39 x0_2 (ji32)).f3⟩ : S39)) := ⟨_, rfl⟩
            replace H : (if x13_2 < (x8_2.length : Int) then (purflingref14_one.l1 k2 (y258.set ((ji32) : Int).toNat (⟨(rd_T39 y258 (ji32)).f0, mx (rd x8_2 x13_2) (rd t253 x13_2), (rd_T39 y258 (ji32)).f2, (rd_T39 y258 (ji32)).f3⟩ : S39)) a2 (x8_2.set (x13_2 : Int).toNat (mx (rd x8_2 x13_2) (rd t253 x13_2))) t253 (wrap64 (x13_2 + 1)) a1_0 a1_1 a1_2 a1_3 a1_4 a1_5 a1_6 a1_7 a1_8 a1_0 a1_1 a1_2 a1_3 a1_4) else (none)) = some (r1, r2) := by first | (rw [hy258]; with_reducible exact H) | (have H2_ := (Option.bind_some _ _).symm.trans H; rw [hy258]; with_reducible exact H2_) | (have H2_ := (Option.bind_some _ _).symm.trans H; with_reducible exact H2_) | with_reducible exact H | (rw [hy258]; exact H) | exact H
            have Ny258 := Aside0.mk hy258
            clear hy258
            by_cases c36 : x13_2 < (x8_2.length : Int)
            ·rw [if_pos c36] at H
             have c36b0 : decide (x13_2 < (x8_2.length : Int)) = true := decide_eq_true c36
             clear c36
             obtain ⟨ji37, hji37⟩ : ∃ j_ : Int, (mx (rd x8_2 x13_2) (rd t253 x13_2)) = j_ := ⟨_, rfl⟩
             replace H : (purflingref14_one.l1 k2 (y258.set ((ji32) : Int).toNat (⟨(rd_T39 y258 (ji32)).f0, ji37, (rd_T39 y258 (ji32)).f2, (rd_T39 y258 (ji32)).f3⟩ : S39)) a2 (x8_2.set (x13_2 : Int).toNat (ji37)) t253 (wrap64 (x13_2 + 1)) a1_0 a1_1 a1_2 a1_3 a1_4 a1_5 a1_6 a1_7 a1_8 a1_0 a1_1 a1_2 a1_3 a1_4) = some (r1, r2) := by first | (rw [hji37] at H; exact H) | (simp only [hji37] at H ⊢; exact H)
             have hji37_ : (if (rd x8_2 x13_2) < (rd t253 x13_2) then (rd t253 x13_2) else (rd x8_2 x13_2)) = ji37 := hji37
             obtain ⟨y261, hy261⟩ : ∃ y_ : List (S39), y_ = (y258.set ((ji32) : Int).toNat (⟨(rd_T39 y258 (ji32)).f0, ji37, (rd_T39 y258 (ji32)).f2, (rd_T39 y258 (ji32)).f3⟩ : S39)) := ⟨_, rfl⟩
             replace H : (purflingref14_one.l1 k2 y261 a2 (x8_2.set (x13_2 : Int).toNat (ji37)) t253 (wrap64 (x13_2 + 1)) a1_0 a1_1 a1_2 a1_3 a1_4 a1_5 a1_6 a1_7 a1_8 a1_0 a1_1 a1_2 a1_3 a1_4) = some (r1, r2) := by first | (rw [hy261]; with_reducible exact H) | (have H2_ := (Option.bind_some _ _).symm.trans H; rw [hy261]; with_reducible exact H2_) | (have H2_ := (Option.bind_some _ _).symm.trans H; with_reducible exact H2_) | with_reducible exact H | (rw [hy261]; exact H) | exact H
             have Ny261 := Aside0.mk hy261
             clear hy261
             obtain ⟨y264, hy264⟩ : ∃ y_ : List Int, y_ = (x8_2.set (x13_2 : Int).toNat (ji37)) := ⟨_, rfl⟩
             replace H : (purflingref14_one.l1 k2 y261 a2 y264 t253 (wrap64 (x13_2 + 1)) a1_0 a1_1 a1_2 a1_3 a1_4 a1_5 a1_6 a1_7 a1_8 a1_0 a1_1 a1_2 a1_3 a1_4) = some (r1, r2) := by first | (rw [hy264]; with_reducible exact H) | (have H2_ := (Option.bind_some _ _).symm.trans H; rw [hy264]; with_reducible exact H2_) | (have H2_ := (Option.bind_some _ _).symm.trans H; with_reducible exact H2_) | with_reducible exact H | (rw [hy264]; exact H) | exact H
             have Ny264 := Aside0.mk hy264
             clear hy264
             have H' := Aside0.mk H
             clear H
             have hnb41 := NB243_242.out
             have hnc41 := NB242_243.out
             have hcz42_0 : wr.cell? ⟨gb243, 0, none⟩ = some (.int .i64 a1_0) := (blk_cell BK243.out 0).trans rfl
             have hcz42_1 : wr.cell? ⟨gb243, 1, none⟩ = some (.int .i64 a1_1) := (blk_cell BK243.out 1).trans rfl
             have hcz42_2 : wr.cell? ⟨gb243, 2, none⟩ = some (.int .i64 a1_2) := (blk_cell BK243.out 2).trans rfl
             have hcz42_3 : wr.cell? ⟨gb243, 3, none⟩ = some (.int .i64 a1_3) := (blk_cell BK243.out 3).trans rfl
             have hcz42_4 : wr.cell? ⟨gb243, 4, none⟩ = some (.int .i64 a1_4) := (blk_cell BK243.out 4).trans rfl
             have hfz42_0 := blk_frozen BK243.out 0
             have hfz42_1 := blk_frozen BK243.out 1
             have hfz42_2 := blk_frozen BK243.out 2
             have hfz42_3 := blk_frozen BK243.out 3
             have hfz42_4 := blk_frozen BK243.out 4
             try go_wp2
             have n0_ := Aside0.mk (Kd.R_drew HO_0.out)
             have n1_ := Aside0.mk (Kd.R_drew HO_8.out)
             have n2_ := Aside0.mk (Kd.R_drew HO_11.out)
             have n3_ := Aside0.mk (blk_drew BK242.out)
             have n4_ := Aside0.mk (blk_drew BK243.out)
             have n5_ := Aside0.mk (Kept.drew HK.out)
             have n6_ := Aside0.mk (below_drew1 HB.out)
             clear HO_0
             clear HO_8
             clear HO_11
             clear BK242
             clear BK243
             clear HK
             clear HB
             have HO_0 := n0_
             have HO_8 := n1_
             have HO_11 := n2_
             have BK242 := n3_
             have BK243 := n4_
             have HK := n5_
             have HB := n6_
             clear n0_ n1_ n2_ n3_ n4_ n5_ n6_
             obtain ⟨Ao44, co44, eo44⟩ := Kd.R_slice HO_11.out
             (first | subst eo44 | (injection eo44 with f1_ f2_ f3_; have f4_ := f1_.symm; have f5_ := f3_.symm; clear f1_ f2_ f3_; subst f4_; subst f5_))
             have p257 : 0 ≤ (x13_2 : Int) := of_decide_eq_true (by first | (with_reducible assumption) | assumption)
             have q257 : x13_2 < (t253.length : Int) := of_decide_eq_true (by first | (with_reducible assumption) | assumption)
             obtain ⟨ad257, e257, hx257_0⟩ := Kd.at_int (Kd.R_reads' HO_11.out).2.2 x13_2 p257 q257
             cases e257
             replace p257 := eq_true p257
             replace q257 := eq_true q257
             have p35 : 0 ≤ ((ji32) : Int) := of_decide_eq_true (by first | (with_reducible assumption) | assumption)
             have q35 : ((ji32) : Int) < ((x0_2.length : Int) : Int) := of_decide_eq_true (by first | (with_reducible assumption) | assumption)
             obtain ⟨go35, co35, eo35, gb35, gl35, cl35, HG35⟩ := Kd.R_form HO_0.out (by omega)
             (first | cases eo35 | (injection eo35 with ea_ en_ ec_; (first | subst ea_ | (injection ea_ with ea_; subst ea_)); subst ec_; clear en_))
             have GB35 := Aside0.mk gb35
             have GG35 := Aside0.mk HG35
             clear gb35 gl35 HG35
             have HMgo35 := Aside0.mk (show (P0_ go35 ∨ w.heap.size ≤ go35) from (HO_0.out.1 _ rfl))
             obtain ⟨ce35, hcl35, hM35, hcc35, hfr35⟩ := Kd.R_elem HO_0.out z39 ((ji32) : Int) p35 q35
             obtain rfl := k39_openM hM35
             have hx35_0 : World.cell? _ ⟨go35, ((ji32) : Int).toNat * 4, none⟩ = some (.int .i64 ((rd_T39 x0_2 (ji32)).f0)) := hcc35 0 _ rfl
             have hx35_1 : World.cell? _ ⟨go35, ((ji32) : Int).toNat * 4 + 1, none⟩ = some (.int .i64 ((rd_T39 x0_2 (ji32)).f1)) := hcc35 1 _ rfl
             have hx35_2 : World.cell? _ ⟨go35, ((ji32) : Int).toNat * 4 + 2, none⟩ = some (.int .i64 ((rd_T39 x0_2 (ji32)).f2)) := hcc35 2 _ rfl
             have hx35_3 : World.cell? _ ⟨go35, ((ji32) : Int).toNat * 4 + 3, none⟩ = some (.int .i64 ((rd_T39 x0_2 (ji32)).f3)) := hcc35 3 _ rfl
             have hf35_0 : World.frozen? _ ⟨go35, ((ji32) : Int).toNat * 4, none⟩ = false := hfr35 0
             have hf35_1 : World.frozen? _ ⟨go35, ((ji32) : Int).toNat * 4 + 1, none⟩ = false := hfr35 1
             have hf35_2 : World.frozen? _ ⟨go35, ((ji32) : Int).toNat * 4 + 2, none⟩ = false := hfr35 2
             have hf35_3 : World.frozen? _ ⟨go35, ((ji32) : Int).toNat * 4 + 3, none⟩ = false := hfr35 3
             clear hcl35 hcc35 hfr35 hM35
             replace p35 := eq_true p35
             replace q35 := eq_true q35
             obtain ⟨ce45, hcl45, hM45, hcc45, hfr45⟩ := Kd.R_elem HO_0.out z39 ((ji32) : Int) (of_decide_eq_true (by first | (with_reducible assumption) | assumption)) (by have h_ : ((ji32) : Int) < ((x0_2.length : Int) : Int) := of_decide_eq_true (by first | (with_reducible assumption) | assumption); first | exact h_ | (have e_ := (Kd.R_reads' HO_0.out).1; omega) | simpa using h_)
             obtain rfl := k39_openM hM45
             have HP45 := (Kd.R_seg HO_0.out ((ji32) : Int) (of_decide_eq_true (by first | (with_reducible assumption) | assumption)) (by have h_ : ((ji32) : Int) < ((x0_2.length : Int) : Int) := of_decide_eq_true (by first | (with_reducible assumption) | assumption); first | exact h_ | (have e_ := (Kd.R_reads' HO_0.out).1; omega) | simpa using h_) (seg := [.int .i64 (rd t253 x13_2)]) (j := 0) hcl45 hcc45 (show 1 ≤ 4 from by decide) (x' := (⟨rd t253 x13_2, (rd_T39 x0_2 (ji32)).f1, (rd_T39 x0_2 (ji32)).f2, (rd_T39 x0_2 (ji32)).f3⟩ : S39)) (k39_mkM _ _ _ (⟨rd t253 x13_2, (rd_T39 x0_2 (ji32)).f1, (rd_T39 x0_2 (ji32)).f2, (rd_T39 x0_2 (ji32)).f3⟩ : S39) ) (fun _ hk => hk)).1
             rw [← Ny258.out] at HP45
             have HQ45 := Aside0.mk HP45
             clear hcl45 hcc45 hfr45 hM45 HP45
             refine start_ (n := 12) (S := fun w' => w'.cell? ⟨gb243, 0, none⟩ = some (.int .i64 a1_0) ∧ w'.cell? ⟨gb243, 1, none⟩ = some (.int .i64 a1_1) ∧ w'.cell? ⟨gb243, 2, none⟩ = some (.int .i64 a1_2) ∧ w'.cell? ⟨gb243, 3, none⟩ = some (.int .i64 a1_3) ∧ w'.cell? ⟨gb243, 4, none⟩ = some (.int .i64 a1_4) ∧ w'.cell? (ad257.add (x13_2).toNat) = some (.int .i64 (rd t253 x13_2))) (ds := [11]) #[false, false, false, false, false, false, false, false, false, false, false, false] (by kernel_rfl) rfl rfl ⟨(blk_cell BK243.out 0).trans rfl, (blk_cell BK243.out 1).trans rfl, (blk_cell BK243.out 2).trans rfl, (blk_cell BK243.out 3).trans rfl, (blk_cell BK243.out 4).trans rfl, hx257_0⟩ (fun hHeld => ?_); refine with_tabW purflingref14_one.tab14 purflingref14_one.bits14 (fun HT_ HW_ => ?_)
             generalize wr.drew = w43 at HO_0 HO_8 HO_11 BK242 BK243 HK HB GG35 HQ45 hf35_0 hf35_1 hf35_2 hf35_3 hx257_0 hx35_0 hx35_1 hx35_2 hx35_3 hHeld ⊢
             refine pure_ (i := 0) (N := some 67) (v := ?_) (a' := ?_) #[true, false, false, false, false, false, false, false, false, false, false, false] rfl rfl (any_of HT_.out (by kernel_rfl)) (fun _ _ _ h => h) (Or.inl ⟨by rfl, ?_⟩) ?_ ?_
             rotate_left
             ·intro w'
              go_simp
              with_reducible rfl
             rotate_left
             ·simp only [Act.put, List.setIfInBounds_toArray, List.set_cons_zero, List.set_cons_succ, i64_w, i32_w]
              rfl
             refine pure_ (i := 1) (N := some 68) (v := ?_) (a' := ?_) #[true, true, false, false, false, false, false, false, false, false, false, false] rfl rfl (any_of HT_.out (by kernel_rfl)) (fun _ _ _ h => h) (Or.inl ⟨by rfl, ?_⟩) ?_ ?_
             rotate_left
             ·intro w'
              go_simp
              with_reducible rfl
             rotate_left
             ·simp only [Act.put, List.setIfInBounds_toArray, List.set_cons_zero, List.set_cons_succ, i64_w, i32_w]
              rfl
             refine pure_ (i := 3) (N := some 70) (v := ?_) (a' := ?_) #[true, true, false, true, false, false, false, false, false, false, false, false] rfl rfl (any_of HT_.out (by kernel_rfl)) (fun _ _ _ h => h) (Or.inl ⟨by rfl, ?_⟩) ?_ ?_
             rotate_left
             ·intro w'
              go_simp
              with_reducible rfl
             rotate_left
             ·simp only [Act.put, List.setIfInBounds_toArray, List.set_cons_zero, List.set_cons_succ, i64_w, i32_w]
              rfl
             refine pure_ (i := 5) (N := some 72) (v := ?_) (a' := ?_) #[true, true, false, true, false, true, false, false, false, false, false, false] rfl rfl (any_of HT_.out (by kernel_rfl)) (fun _ _ _ h => h) (Or.inl ⟨by rfl, ?_⟩) ?_ ?_
             rotate_left
             ·intro w'
              go_simp
              with_reducible rfl
             rotate_left
             ·simp only [Act.put, List.setIfInBounds_toArray, List.set_cons_zero, List.set_cons_succ, i64_w, i32_w]
              rfl
             refine pure_ (i := 6) (N := some 73) (v := ?_) (a' := ?_) #[true, true, false, true, false, true, true, false, false, false, false, false] rfl rfl (any_of HT_.out (by kernel_rfl)) (fun _ _ _ h => h) (Or.inl ⟨by rfl, ?_⟩) ?_ ?_
             rotate_left
             ·intro w'
              go_simp
              with_reducible rfl
             rotate_left
             ·simp only [Act.put, List.setIfInBounds_toArray, List.set_cons_zero, List.set_cons_succ, i64_w, i32_w]
              rfl
             refine pure_ (i := 7) (N := some 74) (v := ?_) (a' := ?_) #[true, true, false, true, false, true, true, true, false, false, false, false] rfl rfl (any_of HT_.out (by kernel_rfl)) (fun _ _ _ h => h) (Or.inl ⟨by rfl, ?_⟩) ?_ ?_
             rotate_left
             ·intro w'
              go_simp
              with_reducible rfl
             rotate_left
             ·simp only [Act.put, List.setIfInBounds_toArray, List.set_cons_zero, List.set_cons_succ, i64_w, i32_w]
              rfl
             refine take_ (i := 2) (N := some 69) (v := ?_) (a' := ?_) #[true, true, true, true, false, true, true, true, false, false, false, false] rfl rfl (take_ofW HT_.out HW_.out (by kernel_rfl)) (fun _ _ _ h => h) (Or.inl ⟨by rfl, ?_⟩) hHeld ?_ ?_
             rotate_left
             ·rintro w' ⟨s0, s1, s2, s3, s4, s5⟩
              go_simp
              with_reducible rfl
             rotate_left
             ·simp only [Act.put, List.setIfInBounds_toArray, List.set_cons_zero, List.set_cons_succ, i64_w, i32_w]
              rfl
             refine pure_ (i := 4) (N := some 71) (v := ?_) (a' := ?_) #[true, true, true, true, true, true, true, true, false, false, false, false] rfl rfl (any_of HT_.out (by kernel_rfl)) (fun _ _ _ h => h) (Or.inl ⟨by rfl, ?_⟩) ?_ ?_
             rotate_left
             ·intro w'
              go_simp
              with_reducible rfl
             rotate_left
             ·simp only [Act.put, List.setIfInBounds_toArray, List.set_cons_zero, List.set_cons_succ, i64_w, i32_w]
              rfl
             refine take_ (i := 8) (N := some 75) (v := ?_) (a' := ?_) #[true, true, true, true, true, true, true, true, true, false, false, false] rfl rfl (take_ofW HT_.out HW_.out (by kernel_rfl)) (fun _ _ _ h => h) (Or.inl ⟨by rfl, ?_⟩) hHeld ?_ ?_
             rotate_left
             ·rintro w' ⟨s0, s1, s2, s3, s4, s5⟩
              go_simp
              with_reducible rfl
             rotate_left
             ·simp only [Act.put, List.setIfInBounds_toArray, List.set_cons_zero, List.set_cons_succ, i64_w, i32_w]
              rfl
             refine pure_ (i := 9) (N := some 76) (v := ?_) (a' := ?_) #[true, true, true, true, true, true, true, true, true, true, false, false] rfl rfl (any_of HT_.out (by kernel_rfl)) (fun _ _ _ h => h) (Or.inl ⟨by rfl, ?_⟩) ?_ ?_
             rotate_left
             ·intro w'
              go_simp
              with_reducible rfl
             rotate_left
             ·simp only [Act.put, List.setIfInBounds_toArray, List.set_cons_zero, List.set_cons_succ, i64_w, i32_w]
              rfl
             refine pure_ (i := 10) (N := some 77) (v := ?_) (a' := ?_) #[true, true, true, true, true, true, true, true, true, true, true, false] rfl rfl (any_of HT_.out (by kernel_rfl)) (fun _ _ _ h => h) (Or.inl ⟨by rfl, ?_⟩) ?_ ?_
             rotate_left
             ·intro w'
              go_simp
              with_reducible rfl
             rotate_left
             ·simp only [Act.put, List.setIfInBounds_toArray, List.set_cons_zero, List.set_cons_succ, i64_w, i32_w]
              rfl
             refine last_ (i := 11) (N := none) #[true, true, true, true, true, true, true, true, true, true, true, true] rfl rfl (one_of HT_.out (by kernel_rfl)) (by decide) (fun K hK => ?_)
             refine skip_ (w1 := ?_) (by rfl) rfl ?_ ?_
             rotate_left
             ·go_simp
              rfl
             refine hK.out _ _ ?_
             clear hK K
             refine done_ (done_of HT_.out (by kernel_rfl)) ?_
             try go_wp2
             have n0_ : Aside0 (Kd.R k39 39 (w43.setCell ⟨go35, ((ji32) : Int).toNat * 4, none⟩ (.int .i64 (rd t253 x13_2))) w0.heap.size (fun k_ => (P0_ k_ ∨ w.heap.size ≤ k_)) (.slice (some ⟨go35, 0, none⟩) x0_2.length co35) y258) := ⟨by (with_reducible repeat (first | apply Kd.R_alloc | apply Kd.R_drewN | apply Kd.R_drew)); exact HQ45.out⟩
             have n1_ : Aside0 (Kd.R (Kd.int .i64) 2 (w43.setCell ⟨go35, ((ji32) : Int).toNat * 4, none⟩ (.int .i64 (rd t253 x13_2))) w0.heap.size (fun k_ => (P0_ k_ ∨ w.heap.size ≤ k_) ∧ some k_ ≠ (.slice (some ad257) t253.length co44 : Value).ownBlock) (.slice Ao27 x8_2.length co27) x8_2) := ⟨by (with_reducible repeat (first | apply Kd.R_alloc | apply Kd.R_drewN | apply Kd.R_drew)); exact Kd.R_mono (Kd.R_far (p := ⟨go35, ((ji32) : Int).toNat * 4, none⟩) (Kd.R_types HO_8.out GG35.out (by decide)) (fun _ hk => hk.2) (.int .i64 (rd t253 x13_2))) (fun _ hk => ⟨hk.1.1, hk.1.2⟩)⟩
             have n2_ : Aside0 (Kd.R (Kd.int .i64) 2 (w43.setCell ⟨go35, ((ji32) : Int).toNat * 4, none⟩ (.int .i64 (rd t253 x13_2))) w0.heap.size (fun k_ => (P0_ k_ ∨ w.heap.size ≤ k_) ∧ some k_ ≠ (.slice Ao27 x8_2.length co27 : Value).ownBlock) (.slice (some ad257) t253.length co44) t253) := ⟨by (with_reducible repeat (first | apply Kd.R_alloc | apply Kd.R_drewN | apply Kd.R_drew)); exact Kd.R_mono (Kd.R_far (p := ⟨go35, ((ji32) : Int).toNat * 4, none⟩) (Kd.R_types HO_11.out GG35.out (by decide)) (fun _ hk => hk.2) (.int .i64 (rd t253 x13_2))) (fun _ hk => ⟨hk.1.1, hk.1.2⟩)⟩
             have n3_ : Aside0 ((w43.setCell ⟨go35, ((ji32) : Int).toNat * 4, none⟩ (.int .i64 (rd t253 x13_2))).heap[gb242]? = some (.cells #[.int .i64 a1_0, .int .i64 a1_1, .int .i64 a1_2, .int .i64 a1_3, .int .i64 a1_4, .int .i64 a1_5, .int .i64 a1_6, .int .i64 a1_7, .int .i64 a1_8] 37 (0, 0))) := ⟨by (with_reducible repeat (first | refine blk_drewN ?_ _ | refine blk_drew ?_ | refine blk_alloc ?_ _)); refine blk_far ?_ (by have h_ := Kd.R_ne HO_0.out BK242.out (by decide); intro e_; exact h_ (by rw [e_]; rfl)) _; (with_reducible repeat (first | refine blk_drewN ?_ _ | refine blk_drew ?_ | refine blk_alloc ?_ _)); exact BK242.out⟩
             have n4_ : Aside0 ((w43.setCell ⟨go35, ((ji32) : Int).toNat * 4, none⟩ (.int .i64 (rd t253 x13_2))).heap[gb243]? = some (.cells #[.int .i64 a1_0, .int .i64 a1_1, .int .i64 a1_2, .int .i64 a1_3, .int .i64 a1_4] 33 (0, 0))) := ⟨by (with_reducible repeat (first | refine blk_drewN ?_ _ | refine blk_drew ?_ | refine blk_alloc ?_ _)); refine blk_far ?_ (by have h_ := Kd.R_ne HO_0.out BK243.out (by decide); intro e_; exact h_ (by rw [e_]; rfl)) _; (with_reducible repeat (first | refine blk_drewN ?_ _ | refine blk_drew ?_ | refine blk_alloc ?_ _)); exact BK243.out⟩
             have n5_ : Aside0 (Kept w (w43.setCell ⟨go35, ((ji32) : Int).toNat * 4, none⟩ (.int .i64 (rd t253 x13_2))) (fun k_ => P0_ k_)) := ⟨by repeat (first | (with_reducible first | exact HK.out | apply Kept.alloc | apply Kept.drewN | apply Kept.drew | refine Kept.setCell ?_ HMgo35.out _ | refine Kept.setCell ?_ (.inr GW242.out) _ | refine Kept.setCell ?_ (.inr GW243.out) _) | exact HK.out)⟩
             have n6_ : Aside0 (Below w0.heap.size w0 (w43.setCell ⟨go35, ((ji32) : Int).toNat * 4, none⟩ (.int .i64 (rd t253 x13_2)))) := ⟨by repeat (first | (with_reducible first | exact HB.out | apply below_alloc | apply pw_below_drewN | apply below_drew1 | refine below_set ?_ GB35.out | refine below_set ?_ GE242.out | refine below_set ?_ GE243.out) | exact HB.out)⟩
             (try clear HO_0)
             (try clear HO_8)
             (try clear HO_11)
             (try clear BK242)
             (try clear BK243)
             (try clear HK)
             (try clear HB)
             generalize (w43.setCell ⟨go35, ((ji32) : Int).toNat * 4, none⟩ (.int .i64 (rd t253 x13_2))) = w46 at n0_ n1_ n2_ n3_ n4_ n5_ n6_ ⊢
             have HO_0 := n0_
             have HO_8 := n1_
             have HO_11 := n2_
             have BK242 := n3_
             have BK243 := n4_
             have HK := n5_
             have HB := n6_
             clear n0_ n1_ n2_ n3_ n4_ n5_ n6_
             have n0_ := Aside0.mk (Kd.R_drew HO_0.out)
             have n1_ := Aside0.mk (Kd.R_drew HO_8.out)
             have n2_ := Aside0.mk (Kd.R_drew HO_11.out)
             have n3_ := Aside0.mk (blk_drew BK242.out)
             have n4_ := Aside0.mk (blk_drew BK243.out)
             have n5_ := Aside0.mk (Kept.drew HK.out)
             have n6_ := Aside0.mk (below_drew1 HB.out)
             clear HO_0
             clear HO_8
             clear HO_11
             clear BK242
             clear BK243
             clear HK
             clear HB
             have HO_0 := n0_
             have HO_8 := n1_
             have HO_11 := n2_
             have BK242 := n3_
             have BK243 := n4_
             have HK := n5_
             have HB := n6_
             clear n0_ n1_ n2_ n3_ n4_ n5_ n6_
             have p259 : 0 ≤ (x13_2 : Int) := of_decide_eq_true (by first | (with_reducible assumption) | assumption)
             have q259 : x13_2 < (x8_2.length : Int) := of_decide_eq_true (by first | (with_reducible assumption) | assumption)
             obtain ⟨ad259, e259, hx259_0⟩ := Kd.at_int (Kd.R_reads' HO_8.out).2.2 x13_2 p259 q259
             cases e259
             replace p259 := eq_true p259
             replace q259 := eq_true q259
             have p260 : 0 ≤ (x13_2 : Int) := of_decide_eq_true (by first | (with_reducible assumption) | assumption)
             have q260 : x13_2 < (t253.length : Int) := of_decide_eq_true (by first | (with_reducible assumption) | assumption)
             obtain ⟨ad260, e260, hx260_0⟩ := Kd.at_int (Kd.R_reads' HO_11.out).2.2 x13_2 p260 q260
             obtain rfl : ad257 = ad260 := (by injection e260)
             replace p260 := eq_true p260
             replace q260 := eq_true q260
             have p38 : 0 ≤ ((ji32) : Int) := of_decide_eq_true (by first | (with_reducible assumption) | assumption)
             have q38 : ((ji32) : Int) < ((x0_2.length : Int) : Int) := of_decide_eq_true (by first | (with_reducible assumption) | assumption)
             obtain ⟨ce38, hcl38, hM38, hcc38, hfr38⟩ := Kd.R_elem HO_0.out z39 ((ji32) : Int) p38 q38
             obtain rfl := k39_openM hM38
             have hx38_0 : World.cell? _ ⟨go35, ((ji32) : Int).toNat * 4, none⟩ = some (.int .i64 ((rd_T39 y258 (ji32)).f0)) := hcc38 0 _ rfl
             have hx38_1 : World.cell? _ ⟨go35, ((ji32) : Int).toNat * 4 + 1, none⟩ = some (.int .i64 ((rd_T39 y258 (ji32)).f1)) := hcc38 1 _ rfl
             have hx38_2 : World.cell? _ ⟨go35, ((ji32) : Int).toNat * 4 + 2, none⟩ = some (.int .i64 ((rd_T39 y258 (ji32)).f2)) := hcc38 2 _ rfl
             have hx38_3 : World.cell? _ ⟨go35, ((ji32) : Int).toNat * 4 + 3, none⟩ = some (.int .i64 ((rd_T39 y258 (ji32)).f3)) := hcc38 3 _ rfl
             have hf38_0 : World.frozen? _ ⟨go35, ((ji32) : Int).toNat * 4, none⟩ = false := hfr38 0
             have hf38_1 : World.frozen? _ ⟨go35, ((ji32) : Int).toNat * 4 + 1, none⟩ = false := hfr38 1
             have hf38_2 : World.frozen? _ ⟨go35, ((ji32) : Int).toNat * 4 + 2, none⟩ = false := hfr38 2
             have hf38_3 : World.frozen? _ ⟨go35, ((ji32) : Int).toNat * 4 + 3, none⟩ = false := hfr38 3
             clear hcl38 hcc38 hfr38 hM38
             replace p38 := eq_true p38
             replace q38 := eq_true q38
             obtain ⟨ce48, hcl48, hM48, hcc48, hfr48⟩ := Kd.R_elem HO_0.out z39 ((ji32) : Int) (of_decide_eq_true (by first | (with_reducible assumption) | assumption)) (by have h_ : ((ji32) : Int) < ((x0_2.length : Int) : Int) := of_decide_eq_true (by first | (with_reducible assumption) | assumption); first | exact h_ | (have e_ := (Kd.R_reads' HO_0.out).1; omega) | simpa using h_)
             obtain rfl := k39_openM hM48
             have HP48 := (Kd.R_seg HO_0.out ((ji32) : Int) (of_decide_eq_true (by first | (with_reducible assumption) | assumption)) (by have h_ : ((ji32) : Int) < ((x0_2.length : Int) : Int) := of_decide_eq_true (by first | (with_reducible assumption) | assumption); first | exact h_ | (have e_ := (Kd.R_reads' HO_0.out).1; omega) | simpa using h_) (seg := [.int .i64 ji37]) (j := 1) hcl48 hcc48 (show 2 ≤ 4 from by decide) (x' := (⟨(rd_T39 y258 (ji32)).f0, ji37, (rd_T39 y258 (ji32)).f2, (rd_T39 y258 (ji32)).f3⟩ : S39)) (k39_mkM _ _ _ (⟨(rd_T39 y258 (ji32)).f0, ji37, (rd_T39 y258 (ji32)).f2, (rd_T39 y258 (ji32)).f3⟩ : S39) ) (fun _ hk => hk)).1
             rw [← Ny261.out] at HP48
             have HQ48 := Aside0.mk HP48
             clear hcl48 hcc48 hfr48 hM48 HP48
             refine start_ (n := 17) (S := fun w' => w'.cell? ⟨gb243, 0, none⟩ = some (.int .i64 a1_0) ∧ w'.cell? ⟨gb243, 1, none⟩ = some (.int .i64 a1_1) ∧ w'.cell? ⟨gb243, 2, none⟩ = some (.int .i64 a1_2) ∧ w'.cell? ⟨gb243, 3, none⟩ = some (.int .i64 a1_3) ∧ w'.cell? ⟨gb243, 4, none⟩ = some (.int .i64 a1_4) ∧ w'.cell? (ad259.add (x13_2).toNat) = some (.int .i64 (rd x8_2 x13_2)) ∧ w'.cell? (ad257.add (x13_2).toNat) = some (.int .i64 (rd t253 x13_2))) (ds := [16]) #[false, false, false, false, false, false, false, false, false, false, false, false, false, false, false, false, false] (by kernel_rfl) rfl rfl ⟨(blk_cell BK243.out 0).trans rfl, (blk_cell BK243.out 1).trans rfl, (blk_cell BK243.out 2).trans rfl, (blk_cell BK243.out 3).trans rfl, (blk_cell BK243.out 4).trans rfl, hx259_0, hx260_0⟩ (fun hHeld => ?_); refine with_tabW purflingref14_one.tab15 purflingref14_one.bits15 (fun HT_ HW_ => ?_)
             generalize w46.drew = w47 at HO_0 HO_8 HO_11 BK242 BK243 HK HB HQ45 HQ48 hf38_0 hf38_1 hf38_2 hf38_3 hx259_0 hx260_0 hx38_0 hx38_1 hx38_2 hx38_3 hHeld ⊢
             refine pure_ (i := 0) (N := some 78) (v := ?_) (a' := ?_) #[true, false, false, false, false, false, false, false, false, false, false, false, false, false, false, false, false] rfl rfl (any_of HT_.out (by kernel_rfl)) (fun _ _ _ h => h) (Or.inl ⟨by rfl, ?_⟩) ?_ ?_
             rotate_left
             ·intro w'
              go_simp
              with_reducible rfl
             rotate_left
             ·simp only [Act.put, List.setIfInBounds_toArray, List.set_cons_zero, List.set_cons_succ, i64_w, i32_w]
              rfl
             refine pure_ (i := 1) (N := some 79) (v := ?_) (a' := ?_) #[true, true, false, false, false, false, false, false, false, false, false, false, false, false, false, false, false] rfl rfl (any_of HT_.out (by kernel_rfl)) (fun _ _ _ h => h) (Or.inl ⟨by rfl, ?_⟩) ?_ ?_
             rotate_left
             ·intro w'
              go_simp
              with_reducible rfl
             rotate_left
             ·simp only [Act.put, List.setIfInBounds_toArray, List.set_cons_zero, List.set_cons_succ, i64_w, i32_w]
              rfl
             refine pure_ (i := 3) (N := some 81) (v := ?_) (a' := ?_) #[true, true, false, true, false, false, false, false, false, false, false, false, false, false, false, false, false] rfl rfl (any_of HT_.out (by kernel_rfl)) (fun _ _ _ h => h) (Or.inl ⟨by rfl, ?_⟩) ?_ ?_
             rotate_left
             ·intro w'
              go_simp
              with_reducible rfl
             rotate_left
             ·simp only [Act.put, List.setIfInBounds_toArray, List.set_cons_zero, List.set_cons_succ, i64_w, i32_w]
              rfl
             refine pure_ (i := 5) (N := some 83) (v := ?_) (a' := ?_) #[true, true, false, true, false, true, false, false, false, false, false, false, false, false, false, false, false] rfl rfl (any_of HT_.out (by kernel_rfl)) (fun _ _ _ h => h) (Or.inl ⟨by rfl, ?_⟩) ?_ ?_
             rotate_left
             ·intro w'
              go_simp
              with_reducible rfl
             rotate_left
             ·simp only [Act.put, List.setIfInBounds_toArray, List.set_cons_zero, List.set_cons_succ, i64_w, i32_w]
              rfl
             refine pure_ (i := 6) (N := some 84) (v := ?_) (a' := ?_) #[true, true, false, true, false, true, true, false, false, false, false, false, false, false, false, false, false] rfl rfl (any_of HT_.out (by kernel_rfl)) (fun _ _ _ h => h) (Or.inl ⟨by rfl, ?_⟩) ?_ ?_
             rotate_left
             ·intro w'
              go_simp
              with_reducible rfl
             rotate_left
             ·simp only [Act.put, List.setIfInBounds_toArray, List.set_cons_zero, List.set_cons_succ, i64_w, i32_w]
              rfl
             refine pure_ (i := 7) (N := some 85) (v := ?_) (a' := ?_) #[true, true, false, true, false, true, true, true, false, false, false, false, false, false, false, false, false] rfl rfl (any_of HT_.out (by kernel_rfl)) (fun _ _ _ h => h) (Or.inl ⟨by rfl, ?_⟩) ?_ ?_
             rotate_left
             ·intro w'
              go_simp
              with_reducible rfl
             rotate_left
             ·simp only [Act.put, List.setIfInBounds_toArray, List.set_cons_zero, List.set_cons_succ, i64_w, i32_w]
              rfl
             refine pure_ (i := 9) (N := some 87) (v := ?_) (a' := ?_) #[true, true, false, true, false, true, true, true, false, true, false, false, false, false, false, false, false] rfl rfl (any_of HT_.out (by kernel_rfl)) (fun _ _ _ h => h) (Or.inl ⟨by rfl, ?_⟩) ?_ ?_
             rotate_left
             ·intro w'
              go_simp
              with_reducible rfl
             rotate_left
             ·simp only [Act.put, List.setIfInBounds_toArray, List.set_cons_zero, List.set_cons_succ, i64_w, i32_w]
              rfl
             refine pure_ (i := 10) (N := some 88) (v := ?_) (a' := ?_) #[true, true, false, true, false, true, true, true, false, true, true, false, false, false, false, false, false] rfl rfl (any_of HT_.out (by kernel_rfl)) (fun _ _ _ h => h) (Or.inl ⟨by rfl, ?_⟩) ?_ ?_
             rotate_left
             ·intro w'
              go_simp
              with_reducible rfl
             rotate_left
             ·simp only [Act.put, List.setIfInBounds_toArray, List.set_cons_zero, List.set_cons_succ, i64_w, i32_w]
              rfl
             refine pure_ (i := 11) (N := some 89) (v := ?_) (a' := ?_) #[true, true, false, true, false, true, true, true, false, true, true, true, false, false, false, false, false] rfl rfl (any_of HT_.out (by kernel_rfl)) (fun _ _ _ h => h) (Or.inl ⟨by rfl, ?_⟩) ?_ ?_
             rotate_left
             ·intro w'
              go_simp
              with_reducible rfl
             rotate_left
             ·simp only [Act.put, List.setIfInBounds_toArray, List.set_cons_zero, List.set_cons_succ, i64_w, i32_w]
              rfl
             refine take_ (i := 2) (N := some 80) (v := ?_) (a' := ?_) #[true, true, true, true, false, true, true, true, false, true, true, true, false, false, false, false, false] rfl rfl (take_ofW HT_.out HW_.out (by kernel_rfl)) (fun _ _ _ h => h) (Or.inl ⟨by rfl, ?_⟩) hHeld ?_ ?_
             rotate_left
             ·rintro w' ⟨s0, s1, s2, s3, s4, s5, s6⟩
              go_simp
              with_reducible rfl
             rotate_left
             ·simp only [Act.put, List.setIfInBounds_toArray, List.set_cons_zero, List.set_cons_succ, i64_w, i32_w]
              rfl
             refine pure_ (i := 4) (N := some 82) (v := ?_) (a' := ?_) #[true, true, true, true, true, true, true, true, false, true, true, true, false, false, false, false, false] rfl rfl (any_of HT_.out (by kernel_rfl)) (fun _ _ _ h => h) (Or.inl ⟨by rfl, ?_⟩) ?_ ?_
             rotate_left
             ·intro w'
              go_simp
              with_reducible rfl
             rotate_left
             ·simp only [Act.put, List.setIfInBounds_toArray, List.set_cons_zero, List.set_cons_succ, i64_w, i32_w]
              rfl
             refine take_ (i := 8) (N := some 86) (v := ?_) (a' := ?_) #[true, true, true, true, true, true, true, true, true, true, true, true, false, false, false, false, false] rfl rfl (take_ofW HT_.out HW_.out (by kernel_rfl)) (fun _ _ _ h => h) (Or.inl ⟨by rfl, ?_⟩) hHeld ?_ ?_
             rotate_left
             ·rintro w' ⟨s0, s1, s2, s3, s4, s5, s6⟩
              go_simp
              with_reducible rfl
             rotate_left
             ·simp only [Act.put, List.setIfInBounds_toArray, List.set_cons_zero, List.set_cons_succ, i64_w, i32_w]
              rfl
             refine take_ (i := 12) (N := some 90) (v := ?_) (a' := ?_) #[true, true, true, true, true, true, true, true, true, true, true, true, true, false, false, false, false] rfl rfl (take_ofW HT_.out HW_.out (by kernel_rfl)) (fun _ _ _ h => h) (Or.inl ⟨by rfl, ?_⟩) hHeld ?_ ?_
             rotate_left
             ·rintro w' ⟨s0, s1, s2, s3, s4, s5, s6⟩
              go_simp
              with_reducible rfl
             rotate_left
             ·simp only [Act.put, List.setIfInBounds_toArray, List.set_cons_zero, List.set_cons_succ, i64_w, i32_w]
              rfl
             refine pure_ (i := 13) (N := some 91) (v := ?_) (a' := ?_) #[true, true, true, true, true, true, true, true, true, true, true, true, true, true, false, false, false] rfl rfl (any_of HT_.out (by kernel_rfl)) (fun _ _ _ h => h) (Or.inl ⟨by rfl, ?_⟩) ?_ ?_
             rotate_left
             ·intro w'
              go_simp
              with_reducible rfl
             rotate_left
             ·simp only [Act.put, List.setIfInBounds_toArray, List.set_cons_zero, List.set_cons_succ, i64_w, i32_w]
              rfl
             refine pure_ (i := 14) (N := some 92) (v := ?_) (a' := ?_) #[true, true, true, true, true, true, true, true, true, true, true, true, true, true, true, false, false] rfl rfl (any_of HT_.out (by kernel_rfl)) (fun _ _ _ h => h) (Or.inl ⟨by rfl, ?_⟩) ?_ ?_
             rotate_left
             ·intro w'
              go_simp
              with_reducible rfl
             rotate_left
             ·simp only [Act.put, List.setIfInBounds_toArray, List.set_cons_zero, List.set_cons_succ, i64_w, i32_w]
              rfl
             refine pure_ (i := 15) (N := some 93) (v := ?_) (a' := ?_) #[true, true, true, true, true, true, true, true, true, true, true, true, true, true, true, true, false] rfl rfl (any_of HT_.out (by kernel_rfl)) (fun _ _ _ h => h) (Or.inl ⟨by rfl, ?_⟩) ?_ ?_
             rotate_left
             ·intro w'
              go_simp
              with_reducible rfl
             rotate_left
             ·simp only [Act.put, List.setIfInBounds_toArray, List.set_cons_zero, List.set_cons_succ, i64_w, i32_w]
              rfl
             refine last_ (i := 16) (N := none) #[true, true, true, true, true, true, true, true, true, true, true, true, true, true, true, true, true] rfl rfl (one_of HT_.out (by kernel_rfl)) (by decide) (fun K hK => ?_)
             refine skip_ (w1 := ?_) (by rfl) rfl ?_ ?_
             rotate_left
             ·go_simp
              rfl
             refine hK.out _ _ ?_
             clear hK K
             refine done_ (done_of HT_.out (by kernel_rfl)) ?_
             try go_wp2
             have n0_ : Aside0 (Kd.R k39 39 (w47.setCell ⟨go35, ((ji32) : Int).toNat * 4 + 1, none⟩ (.int .i64 ji37)) w0.heap.size (fun k_ => (P0_ k_ ∨ w.heap.size ≤ k_)) (.slice (some ⟨go35, 0, none⟩) x0_2.length co35) y261) := ⟨by (with_reducible repeat (first | apply Kd.R_alloc | apply Kd.R_drewN | apply Kd.R_drew)); exact HQ48.out⟩
             have n1_ : Aside0 (Kd.R (Kd.int .i64) 2 (w47.setCell ⟨go35, ((ji32) : Int).toNat * 4 + 1, none⟩ (.int .i64 ji37)) w0.heap.size (fun k_ => (P0_ k_ ∨ w.heap.size ≤ k_) ∧ some k_ ≠ (.slice (some ad257) t253.length co44 : Value).ownBlock) (.slice (some ad259) x8_2.length co27) x8_2) := ⟨by (with_reducible repeat (first | apply Kd.R_alloc | apply Kd.R_drewN | apply Kd.R_drew)); exact Kd.R_mono (Kd.R_far (p := ⟨go35, ((ji32) : Int).toNat * 4 + 1, none⟩) (Kd.R_types HO_8.out (Kd.R_typed HO_0.out _ rfl).choose_spec (by decide)) (fun _ hk => hk.2) (.int .i64 ji37)) (fun _ hk => ⟨hk.1.1, hk.1.2⟩)⟩
             have n2_ : Aside0 (Kd.R (Kd.int .i64) 2 (w47.setCell ⟨go35, ((ji32) : Int).toNat * 4 + 1, none⟩ (.int .i64 ji37)) w0.heap.size (fun k_ => (P0_ k_ ∨ w.heap.size ≤ k_) ∧ some k_ ≠ (.slice (some ad259) x8_2.length co27 : Value).ownBlock) (.slice (some ad257) t253.length co44) t253) := ⟨by (with_reducible repeat (first | apply Kd.R_alloc | apply Kd.R_drewN | apply Kd.R_drew)); exact Kd.R_mono (Kd.R_far (p := ⟨go35, ((ji32) : Int).toNat * 4 + 1, none⟩) (Kd.R_types HO_11.out (Kd.R_typed HO_0.out _ rfl).choose_spec (by decide)) (fun _ hk => hk.2) (.int .i64 ji37)) (fun _ hk => ⟨hk.1.1, hk.1.2⟩)⟩
             have n3_ : Aside0 ((w47.setCell ⟨go35, ((ji32) : Int).toNat * 4 + 1, none⟩ (.int .i64 ji37)).heap[gb242]? = some (.cells #[.int .i64 a1_0, .int .i64 a1_1, .int .i64 a1_2, .int .i64 a1_3, .int .i64 a1_4, .int .i64 a1_5, .int .i64 a1_6, .int .i64 a1_7, .int .i64 a1_8] 37 (0, 0))) := ⟨by (with_reducible repeat (first | refine blk_drewN ?_ _ | refine blk_drew ?_ | refine blk_alloc ?_ _)); refine blk_far ?_ (by have h_ := Kd.R_ne HO_0.out BK242.out (by decide); intro e_; exact h_ (by rw [e_]; rfl)) _; (with_reducible repeat (first | refine blk_drewN ?_ _ | refine blk_drew ?_ | refine blk_alloc ?_ _)); exact BK242.out⟩
             have n4_ : Aside0 ((w47.setCell ⟨go35, ((ji32) : Int).toNat * 4 + 1, none⟩ (.int .i64 ji37)).heap[gb243]? = some (.cells #[.int .i64 a1_0, .int .i64 a1_1, .int .i64 a1_2, .int .i64 a1_3, .int .i64 a1_4] 33 (0, 0))) := ⟨by (with_reducible repeat (first | refine blk_drewN ?_ _ | refine blk_drew ?_ | refine blk_alloc ?_ _)); refine blk_far ?_ (by have h_ := Kd.R_ne HO_0.out BK243.out (by decide); intro e_; exact h_ (by rw [e_]; rfl)) _; (with_reducible repeat (first | refine blk_drewN ?_ _ | refine blk_drew ?_ | refine blk_alloc ?_ _)); exact BK243.out⟩
             have n5_ : Aside0 (Kept w (w47.setCell ⟨go35, ((ji32) : Int).toNat * 4 + 1, none⟩ (.int .i64 ji37)) (fun k_ => P0_ k_)) := ⟨by repeat (first | (with_reducible first | exact HK.out | apply Kept.alloc | apply Kept.drewN | apply Kept.drew | refine Kept.setCell ?_ HMgo35.out _ | refine Kept.setCell ?_ (.inr GW242.out) _ | refine Kept.setCell ?_ (.inr GW243.out) _) | exact HK.out)⟩
             have n6_ : Aside0 (Below w0.heap.size w0 (w47.setCell ⟨go35, ((ji32) : Int).toNat * 4 + 1, none⟩ (.int .i64 ji37))) := ⟨by repeat (first | (with_reducible first | exact HB.out | apply below_alloc | apply pw_below_drewN | apply below_drew1 | refine below_set ?_ GB35.out | refine below_set ?_ GE242.out | refine below_set ?_ GE243.out) | exact HB.out)⟩
             (try clear HO_0)
             (try clear HO_8)
             (try clear HO_11)
             (try clear BK242)
             (try clear BK243)
             (try clear HK)
             (try clear HB)
             generalize (w47.setCell ⟨go35, ((ji32) : Int).toNat * 4 + 1, none⟩ (.int .i64 ji37)) = w49 at n0_ n1_ n2_ n3_ n4_ n5_ n6_ ⊢
             have HO_0 := n0_
             have HO_8 := n1_
             have HO_11 := n2_
             have BK242 := n3_
             have BK243 := n4_
             have HK := n5_
             have HB := n6_
             clear n0_ n1_ n2_ n3_ n4_ n5_ n6_
             have n0_ := Aside0.mk (Kd.R_drew HO_0.out)
             have n1_ := Aside0.mk (Kd.R_drew HO_8.out)
             have n2_ := Aside0.mk (Kd.R_drew HO_11.out)
             have n3_ := Aside0.mk (blk_drew BK242.out)
             have n4_ := Aside0.mk (blk_drew BK243.out)
             have n5_ := Aside0.mk (Kept.drew HK.out)
             have n6_ := Aside0.mk (below_drew1 HB.out)
             clear HO_0
             clear HO_8
             clear HO_11
             clear BK242
             clear BK243
             clear HK
             clear HB
             have HO_0 := n0_
             have HO_8 := n1_
             have HO_11 := n2_
             have BK242 := n3_
             have BK243 := n4_
             have HK := n5_
             have HB := n6_
             clear n0_ n1_ n2_ n3_ n4_ n5_ n6_
             have p262 : 0 ≤ (x13_2 : Int) := of_decide_eq_true (by first | (with_reducible assumption) | assumption)
             have q262 : x13_2 < (x8_2.length : Int) := of_decide_eq_true (by first | (with_reducible assumption) | assumption)
             obtain ⟨ad262, e262, hx262_0⟩ := Kd.at_int (Kd.R_reads' HO_8.out).2.2 x13_2 p262 q262
             obtain rfl : ad259 = ad262 := (by injection e262)
             replace p262 := eq_true p262
             replace q262 := eq_true q262
             have p263 : 0 ≤ (x13_2 : Int) := of_decide_eq_true (by first | (with_reducible assumption) | assumption)
             have q263 : x13_2 < (t253.length : Int) := of_decide_eq_true (by first | (with_reducible assumption) | assumption)
             obtain ⟨ad263, e263, hx263_0⟩ := Kd.at_int (Kd.R_reads' HO_11.out).2.2 x13_2 p263 q263
             obtain rfl : ad257 = ad263 := (by injection e263)
             replace p263 := eq_true p263
             replace q263 := eq_true q263
             have p40 : 0 ≤ (x13_2 : Int) := of_decide_eq_true (by first | (with_reducible assumption) | assumption)
             have q40 : (x13_2 : Int) < ((x8_2.length : Int) : Int) := of_decide_eq_true (by first | (with_reducible assumption) | assumption)
             obtain ⟨go40, co40, eo40, gb40, gl40, cl40, HG40⟩ := Kd.R_form HO_8.out (by omega)
             (first | cases eo40 | (injection eo40 with ea_ en_ ec_; (first | subst ea_ | (injection ea_ with ea_; subst ea_)); subst ec_; clear en_))
             have GB40 := Aside0.mk gb40
             have GG40 := Aside0.mk HG40
             clear gb40 gl40 HG40
             have HMgo40 := Aside0.mk (show (P0_ go40 ∨ w.heap.size ≤ go40) from (HO_8.out.1 _ rfl).1)
             (first | simp only [add_plain] at hx259_0 | skip)
             (first | simp only [add_plain] at hx262_0 | skip)
             obtain ⟨hx40_0, hf40_0⟩ := Kd.R_celln 0 HO_8.out (x13_2 : Int) p40 q40
             replace p40 := eq_true p40
             replace q40 := eq_true q40
             have HP51 := Kd.R_putn HO_8.out (x13_2 : Int) ji37
             rw [← Ny264.out] at HP51
             have HQ51 := Aside0.mk HP51
             clear HP51
             refine start_ (n := 13) (S := fun w' => w'.cell? ⟨go40, (x13_2).toNat, none⟩ = some (.int .i64 (rd x8_2 x13_2)) ∧ w'.cell? (ad257.add (x13_2).toNat) = some (.int .i64 (rd t253 x13_2))) (ds := [12]) #[false, false, false, false, false, false, false, false, false, false, false, false, false] (by kernel_rfl) rfl rfl ⟨hx262_0, hx263_0⟩ (fun hHeld => ?_); refine with_tabW purflingref14_one.tab16 purflingref14_one.bits16 (fun HT_ HW_ => ?_)
             generalize w49.drew = w50 at HO_0 HO_8 HO_11 BK242 BK243 HK HB GG40 HQ48 HQ51 hf40_0 hx259_0 hx262_0 hx263_0 hx40_0 hHeld ⊢
             refine pure_ (i := 0) (N := some 94) (v := ?_) (a' := ?_) #[true, false, false, false, false, false, false, false, false, false, false, false, false] rfl rfl (any_of HT_.out (by kernel_rfl)) (fun _ _ _ h => h) (Or.inl ⟨by rfl, ?_⟩) ?_ ?_
             rotate_left
             ·intro w'
              go_simp
              with_reducible rfl
             rotate_left
             ·simp only [Act.put, List.setIfInBounds_toArray, List.set_cons_zero, List.set_cons_succ, i64_w, i32_w]
              rfl
             refine pure_ (i := 1) (N := some 95) (v := ?_) (a' := ?_) #[true, true, false, false, false, false, false, false, false, false, false, false, false] rfl rfl (any_of HT_.out (by kernel_rfl)) (fun _ _ _ h => h) (Or.inl ⟨by rfl, ?_⟩) ?_ ?_
             rotate_left
             ·intro w'
              go_simp
              with_reducible rfl
             rotate_left
             ·simp only [Act.put, List.setIfInBounds_toArray, List.set_cons_zero, List.set_cons_succ, i64_w, i32_w]
              rfl
             refine pure_ (i := 2) (N := some 96) (v := ?_) (a' := ?_) #[true, true, true, false, false, false, false, false, false, false, false, false, false] rfl rfl (any_of HT_.out (by kernel_rfl)) (fun _ _ _ h => h) (Or.inl ⟨by rfl, ?_⟩) ?_ ?_
             rotate_left
             ·intro w'
              go_simp
              with_reducible rfl
             rotate_left
             ·simp only [Act.put, List.setIfInBounds_toArray, List.set_cons_zero, List.set_cons_succ, i64_w, i32_w]
              rfl
             refine pure_ (i := 3) (N := some 97) (v := ?_) (a' := ?_) #[true, true, true, true, false, false, false, false, false, false, false, false, false] rfl rfl (any_of HT_.out (by kernel_rfl)) (fun _ _ _ h => h) (Or.inl ⟨by rfl, ?_⟩) ?_ ?_
             rotate_left
             ·intro w'
              go_simp
              with_reducible rfl
             rotate_left
             ·simp only [Act.put, List.setIfInBounds_toArray, List.set_cons_zero, List.set_cons_succ, i64_w, i32_w]
              rfl
             refine pure_ (i := 4) (N := some 98) (v := ?_) (a' := ?_) #[true, true, true, true, true, false, false, false, false, false, false, false, false] rfl rfl (any_of HT_.out (by kernel_rfl)) (fun _ _ _ h => h) (Or.inl ⟨by rfl, ?_⟩) ?_ ?_
             rotate_left
             ·intro w'
              go_simp
              with_reducible rfl
             rotate_left
             ·simp only [Act.put, List.setIfInBounds_toArray, List.set_cons_zero, List.set_cons_succ, i64_w, i32_w]
              rfl
             refine pure_ (i := 6) (N := some 100) (v := ?_) (a' := ?_) #[true, true, true, true, true, false, true, false, false, false, false, false, false] rfl rfl (any_of HT_.out (by kernel_rfl)) (fun _ _ _ h => h) (Or.inl ⟨by rfl, ?_⟩) ?_ ?_
             rotate_left
             ·intro w'
              go_simp
              with_reducible rfl
             rotate_left
             ·simp only [Act.put, List.setIfInBounds_toArray, List.set_cons_zero, List.set_cons_succ, i64_w, i32_w]
              rfl
             refine pure_ (i := 7) (N := some 101) (v := ?_) (a' := ?_) #[true, true, true, true, true, false, true, true, false, false, false, false, false] rfl rfl (any_of HT_.out (by kernel_rfl)) (fun _ _ _ h => h) (Or.inl ⟨by rfl, ?_⟩) ?_ ?_
             rotate_left
             ·intro w'
              go_simp
              with_reducible rfl
             rotate_left
             ·simp only [Act.put, List.setIfInBounds_toArray, List.set_cons_zero, List.set_cons_succ, i64_w, i32_w]
              rfl
             refine pure_ (i := 8) (N := some 102) (v := ?_) (a' := ?_) #[true, true, true, true, true, false, true, true, true, false, false, false, false] rfl rfl (any_of HT_.out (by kernel_rfl)) (fun _ _ _ h => h) (Or.inl ⟨by rfl, ?_⟩) ?_ ?_
             rotate_left
             ·intro w'
              go_simp
              with_reducible rfl
             rotate_left
             ·simp only [Act.put, List.setIfInBounds_toArray, List.set_cons_zero, List.set_cons_succ, i64_w, i32_w]
              rfl
             refine take_ (i := 5) (N := some 99) (v := ?_) (a' := ?_) #[true, true, true, true, true, true, true, true, true, false, false, false, false] rfl rfl (take_ofW HT_.out HW_.out (by kernel_rfl)) (fun _ _ _ h => h) (Or.inl ⟨by rfl, ?_⟩) hHeld ?_ ?_
             rotate_left
             ·rintro w' ⟨s0, s1⟩
              go_simp
              with_reducible rfl
             rotate_left
             ·simp only [Act.put, List.setIfInBounds_toArray, List.set_cons_zero, List.set_cons_succ, i64_w, i32_w]
              rfl
             refine take_ (i := 9) (N := some 103) (v := ?_) (a' := ?_) #[true, true, true, true, true, true, true, true, true, true, false, false, false] rfl rfl (take_ofW HT_.out HW_.out (by kernel_rfl)) (fun _ _ _ h => h) (Or.inl ⟨by rfl, ?_⟩) hHeld ?_ ?_
             rotate_left
             ·rintro w' ⟨s0, s1⟩
              go_simp
              with_reducible rfl
             rotate_left
             ·simp only [Act.put, List.setIfInBounds_toArray, List.set_cons_zero, List.set_cons_succ, i64_w, i32_w]
              rfl
             refine pure_ (i := 10) (N := some 104) (v := ?_) (a' := ?_) #[true, true, true, true, true, true, true, true, true, true, true, false, false] rfl rfl (any_of HT_.out (by kernel_rfl)) (fun _ _ _ h => h) (Or.inl ⟨by rfl, ?_⟩) ?_ ?_
             rotate_left
             ·intro w'
              go_simp
              with_reducible rfl
             rotate_left
             ·simp only [Act.put, List.setIfInBounds_toArray, List.set_cons_zero, List.set_cons_succ, i64_w, i32_w]
              rfl
             refine pure_ (i := 11) (N := some 105) (v := ?_) (a' := ?_) #[true, true, true, true, true, true, true, true, true, true, true, true, false] rfl rfl (any_of HT_.out (by kernel_rfl)) (fun _ _ _ h => h) (Or.inl ⟨by rfl, ?_⟩) ?_ ?_
             rotate_left
             ·intro w'
              go_simp
              with_reducible rfl
             rotate_left
             ·simp only [Act.put, List.setIfInBounds_toArray, List.set_cons_zero, List.set_cons_succ, i64_w, i32_w]
              rfl
             refine last_ (i := 12) (N := none) #[true, true, true, true, true, true, true, true, true, true, true, true, true] rfl rfl (one_of HT_.out (by kernel_rfl)) (by decide) (fun K hK => ?_)
             refine skip_ (w1 := ?_) (by rfl) rfl ?_ ?_
             rotate_left
             ·go_simp
              rfl
             refine hK.out _ _ ?_
             clear hK K
             refine done_ (done_of HT_.out (by kernel_rfl)) ?_
             try go_wp2
             (try simp only [← hl8_2])
             go_roundg k2
             case measure => have := HK1.out; have := HK2.out; omega
             case rel => exact ⟨(y261), (y264), (wrap64 (x13_2 + 1)), (by first | rfl | (simp; done) | (simp [*]; done)), H', ⟨by have := HK1.out; have := HK2.out; omega⟩, ⟨by (try simp only [hl8_2]); (with_reducible repeat (first | apply Kd.R_alloc | apply Kd.R_drewN | apply Kd.R_drew)); exact Kd.R_mono (Kd.R_far (p := ⟨go40, (x13_2 : Int).toNat, none⟩) (Kd.R_types HO_0.out GG40.out (by decide)) (fun _ hk => hk.2) (.int .i64 ji37)) (fun _ hk => hk.1)⟩, ⟨by (try simp only [hl8_2]); (with_reducible repeat (first | apply Kd.R_alloc | apply Kd.R_drewN | apply Kd.R_drew)); exact HQ51.out⟩, ⟨by (try simp only [hl8_2]); (with_reducible repeat (first | apply Kd.R_alloc | apply Kd.R_drewN | apply Kd.R_drew)); exact Kd.R_mono (Kd.R_far (p := ⟨go40, (x13_2 : Int).toNat, none⟩) (Kd.R_mono HO_11.out (fun k_ hk => (⟨hk, fun e_ => hk.2 (by rw [e_]; rfl)⟩ : _ ∧ k_ ≠ go40))) (fun _ hk => hk.2) (.int .i64 ji37)) (fun _ hk => ⟨hk.1.1, hk.1.2⟩)⟩, ⟨by (try simp only [hl8_2]); (with_reducible repeat (first | refine blk_drewN ?_ _ | refine blk_drew ?_ | refine blk_alloc ?_ _)); refine blk_far ?_ (by have h_ := Kd.R_ne HO_8.out BK242.out (by decide); intro e_; exact h_ (by rw [e_]; rfl)) _; (with_reducible repeat (first | refine blk_drewN ?_ _ | refine blk_drew ?_ | refine blk_alloc ?_ _)); exact BK242.out⟩, ⟨by (try simp only [hl8_2]); (with_reducible repeat (first | refine blk_drewN ?_ _ | refine blk_drew ?_ | refine blk_alloc ?_ _)); refine blk_far ?_ (by have h_ := Kd.R_ne HO_8.out BK243.out (by decide); intro e_; exact h_ (by rw [e_]; rfl)) _; (with_reducible repeat (first | refine blk_drewN ?_ _ | refine blk_drew ?_ | refine blk_alloc ?_ _)); exact BK243.out⟩, ⟨by repeat (first | (with_reducible first | exact HK.out | apply Kept.alloc | apply Kept.drewN | apply Kept.drew | refine Kept.setCell ?_ HMgo40.out _ | refine Kept.setCell ?_ (.inr GW242.out) _ | refine Kept.setCell ?_ (.inr GW243.out) _) | exact HK.out)⟩, ⟨by repeat (first | (with_reducible first | exact HB.out | apply below_alloc | apply pw_below_drewN | apply below_drew1 | refine below_set ?_ GB40.out | refine below_set ?_ GE242.out | refine below_set ?_ GE243.out) | exact HB.out)⟩⟩
            ·rw [if_neg c36] at H
             exact absurd H (by simp)
           ·rw [if_neg c34] at H
            exact absurd H (by simp)
          ·rw [if_neg c33] at H
           exact absurd H (by simp)
         ·rw [if_neg c31] at H
          exact absurd H (by simp)
        ·rw [if_neg c30] at H
         exact absurd H (by simp)
       ·rw [if_neg c29] at H
        have c29b0 : decide (x13_2 < a1_4) = false := decide_eq_false c29
        clear c29
        replace H := Option.bind_eq_some_iff.mp H
        obtain ⟨t265, A520, H⟩ := H
        replace H : ((purflingref14_Over.f k2 t265 x8_2 x8_2).bind fun bt266 => (if bt266.2 = 0 then (purflingref14_one.l2 k2 x0_2 bt266.1 0 a1_0 a1_1 a1_2 a1_3 a1_4) else (some (false, x0_2)))) = some (r1, r2) := H
        have A52 := Aside0.mk A520
        clear A520
        replace H := Option.bind_eq_some_iff.mp H
        obtain ⟨⟨t266, t267⟩, A530, H⟩ := H
        replace H : (if t267 = 0 then (purflingref14_one.l2 k2 x0_2 t266 0 a1_0 a1_1 a1_2 a1_3 a1_4) else (some (false, x0_2))) = some (r1, r2) := H
        have A53 := Aside0.mk A530
        clear A530
        by_cases c54 : t267 = 0
        ·rw [if_pos c54] at H
         have c54b0 : (t267 == 0) = true := beq_iff_eq.mpr c54
         have c54b1 : (t267 != 0) = false := bne_eq_false_iff_eq.mpr c54
         clear c54
         have H' := Aside0.mk H
         clear H
         have hnb55 := NB243_242.out
         have hnc55 := NB242_243.out
         have hcz56_0 : wr.cell? ⟨gb243, 0, none⟩ = some (.int .i64 a1_0) := (blk_cell BK243.out 0).trans rfl
         have hcz56_1 : wr.cell? ⟨gb243, 1, none⟩ = some (.int .i64 a1_1) := (blk_cell BK243.out 1).trans rfl
         have hcz56_2 : wr.cell? ⟨gb243, 2, none⟩ = some (.int .i64 a1_2) := (blk_cell BK243.out 2).trans rfl
         have hcz56_3 : wr.cell? ⟨gb243, 3, none⟩ = some (.int .i64 a1_3) := (blk_cell BK243.out 3).trans rfl
         have hcz56_4 : wr.cell? ⟨gb243, 4, none⟩ = some (.int .i64 a1_4) := (blk_cell BK243.out 4).trans rfl
         have hfz56_0 := blk_frozen BK243.out 0
         have hfz56_1 := blk_frozen BK243.out 1
         have hfz56_2 := blk_frozen BK243.out 2
         have hfz56_3 := blk_frozen BK243.out 3
         have hfz56_4 := blk_frozen BK243.out 4
         have hcz57_0 : wr.cell? ⟨gb242, 0, none⟩ = some (.int .i64 a1_0) := (blk_cell BK242.out 0).trans rfl
         have hcz57_1 : wr.cell? ⟨gb242, 1, none⟩ = some (.int .i64 a1_1) := (blk_cell BK242.out 1).trans rfl
         have hcz57_2 : wr.cell? ⟨gb242, 2, none⟩ = some (.int .i64 a1_2) := (blk_cell BK242.out 2).trans rfl
         have hcz57_3 : wr.cell? ⟨gb242, 3, none⟩ = some (.int .i64 a1_3) := (blk_cell BK242.out 3).trans rfl
         have hcz57_4 : wr.cell? ⟨gb242, 4, none⟩ = some (.int .i64 a1_4) := (blk_cell BK242.out 4).trans rfl
         have hcz57_5 : wr.cell? ⟨gb242, 5, none⟩ = some (.int .i64 a1_5) := (blk_cell BK242.out 5).trans rfl
         have hcz57_6 : wr.cell? ⟨gb242, 6, none⟩ = some (.int .i64 a1_6) := (blk_cell BK242.out 6).trans rfl
         have hcz57_7 : wr.cell? ⟨gb242, 7, none⟩ = some (.int .i64 a1_7) := (blk_cell BK242.out 7).trans rfl
         have hcz57_8 : wr.cell? ⟨gb242, 8, none⟩ = some (.int .i64 a1_8) := (blk_cell BK242.out 8).trans rfl
         have hfz57_0 := blk_frozen BK242.out 0
         have hfz57_1 := blk_frozen BK242.out 1
         have hfz57_2 := blk_frozen BK242.out 2
         have hfz57_3 := blk_frozen BK242.out 3
         have hfz57_4 := blk_frozen BK242.out 4
         have hfz57_5 := blk_frozen BK242.out 5
         have hfz57_6 := blk_frozen BK242.out 6
         have hfz57_7 := blk_frozen BK242.out 7
         have hfz57_8 := blk_frozen BK242.out 8
         go_wp2_with (first | ((with_reducible refine gate_callee (f := 49) rfl ?_); refine goesL_ (some 112) rfl rfl Try.func49 (by kernel_rfl) rfl #[.int .i64 a1_6, .int .i64 a2, .int .i64 a1_4] rfl (by (try simp only [List.map_toArray, List.map_cons, List.map_nil]); first | done | rfl | (simp only [List.length_drop, List.length_take]; rfl)) ?_; (with_reducible refine (purflingref14_Part.calls k2 a1_6 a2 a1_4 t265 _ A52.out).mono ?_); rintro e w58 ⟨rfl, hb⟩; refine ⟨_, rfl, ?_⟩; have n0_ := Aside0.mk (Kd.R_below (by (with_reducible repeat (first | apply Kd.R_alloc | apply Kd.R_drewN | apply Kd.R_drew)); exact HO_0.out) hb); have n1_ := Aside0.mk (Kd.R_below (by (with_reducible repeat (first | apply Kd.R_alloc | apply Kd.R_drewN | apply Kd.R_drew)); exact HO_8.out) hb); have n2_ := Aside0.mk (Kd.R_below (by (with_reducible repeat (first | apply Kd.R_alloc | apply Kd.R_drewN | apply Kd.R_drew)); exact HO_11.out) hb); have n3_ := Aside0.mk (blk_below (g := gb242) (o := .cells #[.int .i64 a1_0, .int .i64 a1_1, .int .i64 a1_2, .int .i64 a1_3, .int .i64 a1_4, .int .i64 a1_5, .int .i64 a1_6, .int .i64 a1_7, .int .i64 a1_8] 37 (0, 0)) (by (with_reducible repeat (first | refine blk_drewN ?_ _ | refine blk_drew ?_ | refine blk_alloc ?_ _)); exact BK242.out) hb); have n4_ := Aside0.mk (blk_below (g := gb243) (o := .cells #[.int .i64 a1_0, .int .i64 a1_1, .int .i64 a1_2, .int .i64 a1_3, .int .i64 a1_4] 33 (0, 0)) (by (with_reducible repeat (first | refine blk_drewN ?_ _ | refine blk_drew ?_ | refine blk_alloc ?_ _)); exact BK243.out) hb); have n5_ := Aside0.mk (Kept.below (S := (fun k_ => P0_ k_)) (by repeat (first | (with_reducible first | exact HK.out | apply Kept.alloc | apply Kept.drewN | apply Kept.drew | refine Kept.setCell ?_ (.inr GW242.out) _ | refine Kept.setCell ?_ (.inr GW243.out) _) | exact HK.out)) hb); have n6_ := Aside0.mk (below_step (by repeat (first | (with_reducible first | exact HB.out | apply below_alloc | apply pw_below_drewN | apply below_drew1 | refine below_set ?_ GE242.out | refine below_set ?_ GE243.out) | exact HB.out)) hb); clear HO_0; clear HO_8; clear HO_11; clear BK242; clear BK243; clear HK; clear HB; have HO_0 := n0_; have HO_8 := n1_; have HO_11 := n2_; have BK242 := n3_; have BK243 := n4_; have HK := n5_; have HB := n6_; clear n0_ n1_ n2_ n3_ n4_ n5_ n6_; (try clear hb); (try clear hb2); (try clear hk); (try clear hi)) | ((with_reducible refine gate_callee (f := 48) rfl ?_); refine goesL_ (some 115) rfl rfl Try.func48 (by kernel_rfl) rfl #[.int .i64 t265, .slice Ao27 x8_2.length co27, .slice Ao27 x8_2.length co27] rfl (by (try simp only [List.map_toArray, List.map_cons, List.map_nil]); first | done | rfl | (simp only [List.length_drop, List.length_take]; rfl)) ?_; (with_reducible refine (purflingref14_Over.calls k2 t265 _ _ x8_2 _ _ x8_2 t266 t267 _ ?side1 ?side2 ?side3 ?side4 A53.out).mono ?_); (case side1 => repeat (first | exact (Kd.R_reads' HO_8.out).2.2 | (with_reducible refine Kd.C_alloc ?_ _) | (with_reducible refine Kd.C_drewN ?_ _) | (with_reducible refine Kd.C_drew ?_))); (case side2 => exact (Kd.R_reads' HO_8.out).2.1); (case side3 => repeat (first | exact (Kd.R_reads' HO_8.out).2.2 | (with_reducible refine Kd.C_alloc ?_ _) | (with_reducible refine Kd.C_drewN ?_ _) | (with_reducible refine Kd.C_drew ?_))); (case side4 => exact (Kd.R_reads' HO_8.out).2.1); rintro e w59 ⟨v268, rfl, ho0, hb⟩; refine ⟨_, rfl, ?_⟩; have n0_ := Aside0.mk (Kd.R_below (by (with_reducible repeat (first | apply Kd.R_alloc | apply Kd.R_drewN | apply Kd.R_drew)); exact HO_0.out) hb); have n1_ := Aside0.mk (Kd.R_elder' (by (with_reducible repeat (first | apply Kd.R_alloc | apply Kd.R_drewN | apply Kd.R_drew)); exact HO_8.out) (Kd.R_base ho0) hb); have n2_ := Aside0.mk (Kd.R_elder' (by (with_reducible repeat (first | apply Kd.R_alloc | apply Kd.R_drewN | apply Kd.R_drew)); exact HO_11.out) (Kd.R_base ho0) hb); have n3_ := Aside0.mk (Kd.R_lower (Kd.R_new' (Kd.R_new' (Kd.R_newM (M := fun k_ => (P0_ k_ ∨ w.heap.size ≤ k_)) ho0 (by first | exact HK.out.1 | exact (show Kept w _ (fun k_ => P0_ k_) from by repeat (first | (with_reducible first | exact HK.out | apply Kept.alloc | apply Kept.drewN | apply Kept.drew | refine Kept.setCell ?_ (.inr GW242.out) _ | refine Kept.setCell ?_ (.inr GW243.out) _) | exact HK.out)).1) (fun k_ h_ => .inr h_)) (Kd.R_lt (by (with_reducible repeat (first | apply Kd.R_alloc | apply Kd.R_drewN | apply Kd.R_drew)); exact HO_8.out))) (Kd.R_lt (by (with_reducible repeat (first | apply Kd.R_alloc | apply Kd.R_drewN | apply Kd.R_drew)); exact HO_11.out))) (below_size (by repeat (first | (with_reducible first | exact HB.out | apply below_alloc | apply pw_below_drewN | apply below_drew1 | refine below_set ?_ GE242.out | refine below_set ?_ GE243.out) | exact HB.out)))); have n4_ := Aside0.mk (blk_below (g := gb242) (o := .cells #[.int .i64 a1_0, .int .i64 a1_1, .int .i64 a1_2, .int .i64 a1_3, .int .i64 a1_4, .int .i64 a1_5, .int .i64 a1_6, .int .i64 a1_7, .int .i64 a1_8] 37 (0, 0)) (by (with_reducible repeat (first | refine blk_drewN ?_ _ | refine blk_drew ?_ | refine blk_alloc ?_ _)); exact BK242.out) hb); have n5_ := Aside0.mk (blk_below (g := gb243) (o := .cells #[.int .i64 a1_0, .int .i64 a1_1, .int .i64 a1_2, .int .i64 a1_3, .int .i64 a1_4] 33 (0, 0)) (by (with_reducible repeat (first | refine blk_drewN ?_ _ | refine blk_drew ?_ | refine blk_alloc ?_ _)); exact BK243.out) hb); have n6_ := Aside0.mk (Kept.below (S := (fun k_ => P0_ k_)) (by repeat (first | (with_reducible first | exact HK.out | apply Kept.alloc | apply Kept.drewN | apply Kept.drew | refine Kept.setCell ?_ (.inr GW242.out) _ | refine Kept.setCell ?_ (.inr GW243.out) _) | exact HK.out)) hb); have n7_ := Aside0.mk (below_step (by repeat (first | (with_reducible first | exact HB.out | apply below_alloc | apply pw_below_drewN | apply below_drew1 | refine below_set ?_ GE242.out | refine below_set ?_ GE243.out) | exact HB.out)) hb); clear HO_0; clear HO_8; clear HO_11; clear BK242; clear BK243; clear HK; clear HB; have HO_0 := n0_; have HO_8 := n1_; have HO_11 := n2_; have HO269 := n3_; have BK242 := n4_; have BK243 := n5_; have HK := n6_; have HB := n7_; clear n0_ n1_ n2_ n3_ n4_ n5_ n6_ n7_; (try clear hb); (try clear hb2); (try clear hk); (try clear hi); (try clear ho0)))
         go_loopg [16] k2 (fun kq v16 w' => ∃ (x0_3 : List (S39)) (x16_3 : Int), v16 = .int .i64 x16_3 ∧ Aside0 (purflingref14_one.l2 kq x0_3 t266 x16_3 a1_0 a1_1 a1_2 a1_3 a1_4 = some (r1, r2)) ∧ Aside0 (kq ≤ k2) ∧ Aside0 (Kd.R k39 39 w' w0.heap.size (fun k_ => (P0_ k_ ∨ w.heap.size ≤ k_)) u9000_ x0_3) ∧ Aside0 (Kd.R (Kd.int .i64) 2 w' w0.heap.size (fun k_ => (P0_ k_ ∨ w.heap.size ≤ k_)) v268 t266) ∧ Aside0 (w'.heap[gb242]? = some (.cells #[.int .i64 a1_0, .int .i64 a1_1, .int .i64 a1_2, .int .i64 a1_3, .int .i64 a1_4, .int .i64 a1_5, .int .i64 a1_6, .int .i64 a1_7, .int .i64 a1_8] 37 (0, 0))) ∧ Aside0 (w'.heap[gb243]? = some (.cells #[.int .i64 a1_0, .int .i64 a1_1, .int .i64 a1_2, .int .i64 a1_3, .int .i64 a1_4] 33 (0, 0))) ∧ Aside0 (Kept w w' (fun k_ => P0_ k_)) ∧ Aside0 (Below w0.heap.size w0 w'))
         case atStart => exact ⟨(x0_2), (0), (by first | rfl | (simp; done) | (simp [*]; done)), H', ⟨Nat.le_refl _⟩, ⟨by (try simp only [hl8_2]); (with_reducible repeat (first | apply Kd.R_alloc | apply Kd.R_drewN | apply Kd.R_drew)); exact HO_0.out⟩, ⟨by (try simp only [hl8_2]); (with_reducible repeat (first | apply Kd.R_alloc | apply Kd.R_drewN | apply Kd.R_drew)); exact Kd.R_mono HO269.out (fun _ hk => hk.1.1.1)⟩, ⟨by (try simp only [hl8_2]); (with_reducible repeat (first | refine blk_drewN ?_ _ | refine blk_drew ?_ | refine blk_alloc ?_ _)); exact BK242.out⟩, ⟨by (try simp only [hl8_2]); (with_reducible repeat (first | refine blk_drewN ?_ _ | refine blk_drew ?_ | refine blk_alloc ?_ _)); exact BK243.out⟩, ⟨by repeat (first | (with_reducible first | exact HK.out | apply Kept.alloc | apply Kept.drewN | apply Kept.drew | refine Kept.setCell ?_ (.inr GW242.out) _ | refine Kept.setCell ?_ (.inr GW243.out) _) | exact HK.out)⟩, ⟨by repeat (first | (with_reducible first | exact HB.out | apply below_alloc | apply pw_below_drewN | apply below_drew1 | refine below_set ?_ GE242.out | refine below_set ?_ GE243.out) | exact HB.out)⟩⟩
         case round =>
          clear H'
          try clear c2
          try clear p2
          try clear q2
          try clear hx2
          try clear c3
          try clear p3
          try clear q3
          try clear hx3
          try clear hf3
          try clear c4
          try clear p4
          try clear q4
          try clear hx4
          try clear hf4
          try clear c5
          try clear p6
          try clear p25
          try clear q25
          try clear hx25
          try clear p26
          try clear q26
          try clear hx26
          try clear c29
          try clear c29b0
          try clear c30
          try clear c31
          try clear c33
          try clear c34
          try clear c35
          try clear p35
          try clear q35
          try clear hx35
          try clear hf35
          try clear c36
          try clear c38
          try clear p38
          try clear q38
          try clear hx38
          try clear hf38
          try clear p40
          try clear q40
          try clear hx40
          try clear hf40
          try clear c45
          try clear c48
          try clear c49
          try clear c54
          try clear c54b0
          try clear c54b1
          try clear c55
          try clear hcz56_0
          try clear hcz56_1
          try clear hcz56_2
          try clear hcz56_3
          try clear hcz56_4
          try clear hcz57_0
          try clear hcz57_1
          try clear hcz57_2
          try clear hcz57_3
          try clear hcz57_4
          try clear hcz57_5
          try clear hcz57_6
          try clear hcz57_7
          try clear hcz57_8
          try clear hfz56_0
          try clear hfz56_1
          try clear hfz56_2
          try clear hfz56_3
          try clear hfz56_4
          try clear hfz57_0
          try clear hfz57_1
          try clear hfz57_2
          try clear hfz57_3
          try clear hfz57_4
          try clear hfz57_5
          try clear hfz57_6
          try clear hfz57_7
          try clear hfz57_8
          try clear hx257_0
          try clear hx259_0
          try clear hx260_0
          try clear hx262_0
          try clear hx263_0
          try clear hx35_0
          try clear hx35_1
          try clear hx35_2
          try clear hx35_3
          try clear hx38_0
          try clear hx38_1
          try clear hx38_2
          try clear hx38_3
          try clear hx40_0
          try clear p257
          try clear p259
          try clear p260
          try clear p262
          try clear p263
          try clear p35
          try clear p38
          try clear p40
          try clear q257
          try clear q259
          try clear q260
          try clear q262
          try clear q263
          try clear q35
          try clear q38
          try clear q40
          obtain ⟨x0_3, x16_3, rfl, HA, HK3, HO_0, HO_14, BK242, BK243, HK, HB⟩ := hrel
          cases gk with
          | zero => exact absurd HA.out (by simp [purflingref14_one.l2])
          | succ k3 =>
           have H := HA.out
           clear HA
           simp only [purflingref14_one.l2] at H
           by_cases c60 : x16_3 < a1_4
           ·rw [if_pos c60] at H
            have c60b0 : decide (x16_3 < a1_4) = true := decide_eq_true c60
            clear c60
            by_cases c61 : 0 ≤ x16_3
            ·rw [if_pos c61] at H
             have c61b0 : decide (0 ≤ x16_3) = true := decide_eq_true c61
             clear c61
             by_cases c62 : x16_3 < (t266.length : Int)
             ·rw [if_pos c62] at H
              have c62b0 : decide (x16_3 < (t266.length : Int)) = true := decide_eq_true c62
              clear c62
              obtain ⟨ji63, hji63⟩ : ∃ j_ : Int, (wrap64 (a1_2 + x16_3)) = j_ := ⟨_, rfl⟩
              replace H : (if 0 ≤ (ji63) then (if (ji63) < (x0_3.length : Int) then (purflingref14_one.l2 k3 (x0_3.set ((ji63) : Int).toNat (⟨(rd_T39 x0_3 (ji63)).f0, rd t266 x16_3, (rd_T39 x0_3 (ji63)).f2, (rd_T39 x0_3 (ji63)).f3⟩ : S39)) t266 (wrap64 (x16_3 + 1)) a1_0 a1_1 a1_2 a1_3 a1_4) else (none)) else (none)) = some (r1, r2) := by first | (rw [hji63] at H; exact H) | (simp only [hji63] at H ⊢; exact H)
              have hji63w : (IntKind.i64.wrap (a1_2 + x16_3)) = ji63 := (i64_w _).trans hji63
              by_cases c64 : 0 ≤ (ji63)
              ·rw [if_pos c64] at H
               have c64b0 : decide (0 ≤ (ji63)) = true := decide_eq_true c64
               clear c64
               by_cases c65 : (ji63) < (x0_3.length : Int)
               ·rw [if_pos c65] at H
                have c65b0 : decide ((ji63) < (x0_3.length : Int)) = true := decide_eq_true c65
                clear c65
                obtain ⟨y271, hy271⟩ : ∃ y_ : List (S39), y_ = (x0_3.set ((ji63) : Int).toNat (⟨(rd_T39 x0_3 (ji63)).f0, rd t266 x16_3, (rd_T39 x0_3 (ji63)).f2, (rd_T39 x0_3 (ji63)).f3⟩ : S39)) := ⟨_, rfl⟩
                replace H : (purflingref14_one.l2 k3 y271 t266 (wrap64 (x16_3 + 1)) a1_0 a1_1 a1_2 a1_3 a1_4) = some (r1, r2) := by first | (rw [hy271]; with_reducible exact H) | (have H2_ := (Option.bind_some _ _).symm.trans H; rw [hy271]; with_reducible exact H2_) | (have H2_ := (Option.bind_some _ _).symm.trans H; with_reducible exact H2_) | with_reducible exact H | (rw [hy271]; exact H) | exact H
                have Ny271 := Aside0.mk hy271
                clear hy271
                have H' := Aside0.mk H
                clear H
                have hnb67 := NB243_242.out
                have hnc67 := NB242_243.out
                have hcz68_0 : wr.cell? ⟨gb243, 0, none⟩ = some (.int .i64 a1_0) := (blk_cell BK243.out 0).trans rfl
                have hcz68_1 : wr.cell? ⟨gb243, 1, none⟩ = some (.int .i64 a1_1) := (blk_cell BK243.out 1).trans rfl
                have hcz68_2 : wr.cell? ⟨gb243, 2, none⟩ = some (.int .i64 a1_2) := (blk_cell BK243.out 2).trans rfl
                have hcz68_3 : wr.cell? ⟨gb243, 3, none⟩ = some (.int .i64 a1_3) := (blk_cell BK243.out 3).trans rfl
                have hcz68_4 : wr.cell? ⟨gb243, 4, none⟩ = some (.int .i64 a1_4) := (blk_cell BK243.out 4).trans rfl
                have hfz68_0 := blk_frozen BK243.out 0
                have hfz68_1 := blk_frozen BK243.out 1
                have hfz68_2 := blk_frozen BK243.out 2
                have hfz68_3 := blk_frozen BK243.out 3
                have hfz68_4 := blk_frozen BK243.out 4
                try go_wp2
                have n0_ := Aside0.mk (Kd.R_drew HO_0.out)
                have n1_ := Aside0.mk (Kd.R_drew HO_14.out)
                have n2_ := Aside0.mk (blk_drew BK242.out)
                have n3_ := Aside0.mk (blk_drew BK243.out)
                have n4_ := Aside0.mk (Kept.drew HK.out)
                have n5_ := Aside0.mk (below_drew1 HB.out)
                clear HO_0
                clear HO_14
                clear BK242
                clear BK243
                clear HK
                clear HB
                have HO_0 := n0_
                have HO_14 := n1_
                have BK242 := n2_
                have BK243 := n3_
                have HK := n4_
                have HB := n5_
                clear n0_ n1_ n2_ n3_ n4_ n5_
                obtain ⟨Ao70, co70, eo70⟩ := Kd.R_slice HO_14.out
                (first | subst eo70 | (injection eo70 with f1_ f2_ f3_; have f4_ := f1_.symm; have f5_ := f3_.symm; clear f1_ f2_ f3_; subst f4_; subst f5_))
                have p270 : 0 ≤ (x16_3 : Int) := of_decide_eq_true (by first | (with_reducible assumption) | assumption)
                have q270 : x16_3 < (t266.length : Int) := of_decide_eq_true (by first | (with_reducible assumption) | assumption)
                obtain ⟨ad270, e270, hx270_0⟩ := Kd.at_int (Kd.R_reads' HO_14.out).2.2 x16_3 p270 q270
                cases e270
                replace p270 := eq_true p270
                replace q270 := eq_true q270
                have p66 : 0 ≤ ((ji63) : Int) := of_decide_eq_true (by first | (with_reducible assumption) | assumption)
                have q66 : ((ji63) : Int) < ((x0_3.length : Int) : Int) := of_decide_eq_true (by first | (with_reducible assumption) | assumption)
                obtain ⟨go66, co66, eo66, gb66, gl66, cl66, HG66⟩ := Kd.R_form HO_0.out (by omega)
                (first | cases eo66 | (injection eo66 with ea_ en_ ec_; (first | subst ea_ | (injection ea_ with ea_; subst ea_)); subst ec_; clear en_))
                have GB66 := Aside0.mk gb66
                have GG66 := Aside0.mk HG66
                clear gb66 gl66 HG66
                have HMgo66 := Aside0.mk (show (P0_ go66 ∨ w.heap.size ≤ go66) from (HO_0.out.1 _ rfl))
                obtain ⟨ce66, hcl66, hM66, hcc66, hfr66⟩ := Kd.R_elem HO_0.out z39 ((ji63) : Int) p66 q66
                obtain rfl := k39_openM hM66
                have hx66_0 : World.cell? _ ⟨go66, ((ji63) : Int).toNat * 4, none⟩ = some (.int .i64 ((rd_T39 x0_3 (ji63)).f0)) := hcc66 0 _ rfl
                have hx66_1 : World.cell? _ ⟨go66, ((ji63) : Int).toNat * 4 + 1, none⟩ = some (.int .i64 ((rd_T39 x0_3 (ji63)).f1)) := hcc66 1 _ rfl
                have hx66_2 : World.cell? _ ⟨go66, ((ji63) : Int).toNat * 4 + 2, none⟩ = some (.int .i64 ((rd_T39 x0_3 (ji63)).f2)) := hcc66 2 _ rfl
                have hx66_3 : World.cell? _ ⟨go66, ((ji63) : Int).toNat * 4 + 3, none⟩ = some (.int .i64 ((rd_T39 x0_3 (ji63)).f3)) := hcc66 3 _ rfl
                have hf66_0 : World.frozen? _ ⟨go66, ((ji63) : Int).toNat * 4, none⟩ = false := hfr66 0
                have hf66_1 : World.frozen? _ ⟨go66, ((ji63) : Int).toNat * 4 + 1, none⟩ = false := hfr66 1
                have hf66_2 : World.frozen? _ ⟨go66, ((ji63) : Int).toNat * 4 + 2, none⟩ = false := hfr66 2
                have hf66_3 : World.frozen? _ ⟨go66, ((ji63) : Int).toNat * 4 + 3, none⟩ = false := hfr66 3
                clear hcl66 hcc66 hfr66 hM66
                replace p66 := eq_true p66
                replace q66 := eq_true q66
                obtain ⟨ce71, hcl71, hM71, hcc71, hfr71⟩ := Kd.R_elem HO_0.out z39 ((ji63) : Int) (of_decide_eq_true (by first | (with_reducible assumption) | assumption)) (by have h_ : ((ji63) : Int) < ((x0_3.length : Int) : Int) := of_decide_eq_true (by first | (with_reducible assumption) | assumption); first | exact h_ | (have e_ := (Kd.R_reads' HO_0.out).1; omega) | simpa using h_)
                obtain rfl := k39_openM hM71
                have HP71 := (Kd.R_seg HO_0.out ((ji63) : Int) (of_decide_eq_true (by first | (with_reducible assumption) | assumption)) (by have h_ : ((ji63) : Int) < ((x0_3.length : Int) : Int) := of_decide_eq_true (by first | (with_reducible assumption) | assumption); first | exact h_ | (have e_ := (Kd.R_reads' HO_0.out).1; omega) | simpa using h_) (seg := [.int .i64 (rd t266 x16_3)]) (j := 1) hcl71 hcc71 (show 2 ≤ 4 from by decide) (x' := (⟨(rd_T39 x0_3 (ji63)).f0, rd t266 x16_3, (rd_T39 x0_3 (ji63)).f2, (rd_T39 x0_3 (ji63)).f3⟩ : S39)) (k39_mkM _ _ _ (⟨(rd_T39 x0_3 (ji63)).f0, rd t266 x16_3, (rd_T39 x0_3 (ji63)).f2, (rd_T39 x0_3 (ji63)).f3⟩ : S39) ) (fun _ hk => hk)).1
                rw [← Ny271.out] at HP71
                have HQ71 := Aside0.mk HP71
                clear hcl71 hcc71 hfr71 hM71 HP71
                refine start_ (n := 12) (S := fun w' => w'.cell? ⟨gb243, 0, none⟩ = some (.int .i64 a1_0) ∧ w'.cell? ⟨gb243, 1, none⟩ = some (.int .i64 a1_1) ∧ w'.cell? ⟨gb243, 2, none⟩ = some (.int .i64 a1_2) ∧ w'.cell? ⟨gb243, 3, none⟩ = some (.int .i64 a1_3) ∧ w'.cell? ⟨gb243, 4, none⟩ = some (.int .i64 a1_4) ∧ w'.cell? (ad270.add (x16_3).toNat) = some (.int .i64 (rd t266 x16_3))) (ds := [11]) #[false, false, false, false, false, false, false, false, false, false, false, false] (by kernel_rfl) rfl rfl ⟨(blk_cell BK243.out 0).trans rfl, (blk_cell BK243.out 1).trans rfl, (blk_cell BK243.out 2).trans rfl, (blk_cell BK243.out 3).trans rfl, (blk_cell BK243.out 4).trans rfl, hx270_0⟩ (fun hHeld => ?_); refine with_tabW purflingref14_one.tab23 purflingref14_one.bits23 (fun HT_ HW_ => ?_)
                generalize wr.drew = w69 at HO_0 HO_14 BK242 BK243 HK HB GG66 HQ71 hf66_0 hf66_1 hf66_2 hf66_3 hx270_0 hx66_0 hx66_1 hx66_2 hx66_3 hHeld ⊢
                refine pure_ (i := 0) (N := some 126) (v := ?_) (a' := ?_) #[true, false, false, false, false, false, false, false, false, false, false, false] rfl rfl (any_of HT_.out (by kernel_rfl)) (fun _ _ _ h => h) (Or.inl ⟨by rfl, ?_⟩) ?_ ?_
                rotate_left
                ·intro w'
                 go_simp
                 with_reducible rfl
                rotate_left
                ·simp only [Act.put, List.setIfInBounds_toArray, List.set_cons_zero, List.set_cons_succ, i64_w, i32_w]
                 rfl
                refine pure_ (i := 1) (N := some 127) (v := ?_) (a' := ?_) #[true, true, false, false, false, false, false, false, false, false, false, false] rfl rfl (any_of HT_.out (by kernel_rfl)) (fun _ _ _ h => h) (Or.inl ⟨by rfl, ?_⟩) ?_ ?_
                rotate_left
                ·intro w'
                 go_simp
                 with_reducible rfl
                rotate_left
                ·simp only [Act.put, List.setIfInBounds_toArray, List.set_cons_zero, List.set_cons_succ, i64_w, i32_w]
                 rfl
                refine pure_ (i := 3) (N := some 129) (v := ?_) (a' := ?_) #[true, true, false, true, false, false, false, false, false, false, false, false] rfl rfl (any_of HT_.out (by kernel_rfl)) (fun _ _ _ h => h) (Or.inl ⟨by rfl, ?_⟩) ?_ ?_
                rotate_left
                ·intro w'
                 go_simp
                 with_reducible rfl
                rotate_left
                ·simp only [Act.put, List.setIfInBounds_toArray, List.set_cons_zero, List.set_cons_succ, i64_w, i32_w]
                 rfl
                refine pure_ (i := 5) (N := some 131) (v := ?_) (a' := ?_) #[true, true, false, true, false, true, false, false, false, false, false, false] rfl rfl (any_of HT_.out (by kernel_rfl)) (fun _ _ _ h => h) (Or.inl ⟨by rfl, ?_⟩) ?_ ?_
                rotate_left
                ·intro w'
                 go_simp
                 with_reducible rfl
                rotate_left
                ·simp only [Act.put, List.setIfInBounds_toArray, List.set_cons_zero, List.set_cons_succ, i64_w, i32_w]
                 rfl
                refine pure_ (i := 6) (N := some 132) (v := ?_) (a' := ?_) #[true, true, false, true, false, true, true, false, false, false, false, false] rfl rfl (any_of HT_.out (by kernel_rfl)) (fun _ _ _ h => h) (Or.inl ⟨by rfl, ?_⟩) ?_ ?_
                rotate_left
                ·intro w'
                 go_simp
                 with_reducible rfl
                rotate_left
                ·simp only [Act.put, List.setIfInBounds_toArray, List.set_cons_zero, List.set_cons_succ, i64_w, i32_w]
                 rfl
                refine pure_ (i := 7) (N := some 133) (v := ?_) (a' := ?_) #[true, true, false, true, false, true, true, true, false, false, false, false] rfl rfl (any_of HT_.out (by kernel_rfl)) (fun _ _ _ h => h) (Or.inl ⟨by rfl, ?_⟩) ?_ ?_
                rotate_left
                ·intro w'
                 go_simp
                 with_reducible rfl
                rotate_left
                ·simp only [Act.put, List.setIfInBounds_toArray, List.set_cons_zero, List.set_cons_succ, i64_w, i32_w]
                 rfl
                refine take_ (i := 2) (N := some 128) (v := ?_) (a' := ?_) #[true, true, true, true, false, true, true, true, false, false, false, false] rfl rfl (take_ofW HT_.out HW_.out (by kernel_rfl)) (fun _ _ _ h => h) (Or.inl ⟨by rfl, ?_⟩) hHeld ?_ ?_
                rotate_left
                ·rintro w' ⟨s0, s1, s2, s3, s4, s5⟩
                 go_simp
                 with_reducible rfl
                rotate_left
                ·simp only [Act.put, List.setIfInBounds_toArray, List.set_cons_zero, List.set_cons_succ, i64_w, i32_w]
                 rfl
                refine pure_ (i := 4) (N := some 130) (v := ?_) (a' := ?_) #[true, true, true, true, true, true, true, true, false, false, false, false] rfl rfl (any_of HT_.out (by kernel_rfl)) (fun _ _ _ h => h) (Or.inl ⟨by rfl, ?_⟩) ?_ ?_
                rotate_left
                ·intro w'
                 go_simp
                 with_reducible rfl
                rotate_left
                ·simp only [Act.put, List.setIfInBounds_toArray, List.set_cons_zero, List.set_cons_succ, i64_w, i32_w]
                 rfl
                refine take_ (i := 8) (N := some 134) (v := ?_) (a' := ?_) #[true, true, true, true, true, true, true, true, true, false, false, false] rfl rfl (take_ofW HT_.out HW_.out (by kernel_rfl)) (fun _ _ _ h => h) (Or.inl ⟨by rfl, ?_⟩) hHeld ?_ ?_
                rotate_left
                ·rintro w' ⟨s0, s1, s2, s3, s4, s5⟩
                 go_simp
                 with_reducible rfl
                rotate_left
                ·simp only [Act.put, List.setIfInBounds_toArray, List.set_cons_zero, List.set_cons_succ, i64_w, i32_w]
                 rfl
                refine pure_ (i := 9) (N := some 135) (v := ?_) (a' := ?_) #[true, true, true, true, true, true, true, true, true, true, false, false] rfl rfl (any_of HT_.out (by kernel_rfl)) (fun _ _ _ h => h) (Or.inl ⟨by rfl, ?_⟩) ?_ ?_
                rotate_left
                ·intro w'
                 go_simp
                 with_reducible rfl
                rotate_left
                ·simp only [Act.put, List.setIfInBounds_toArray, List.set_cons_zero, List.set_cons_succ, i64_w, i32_w]
                 rfl
                refine pure_ (i := 10) (N := some 136) (v := ?_) (a' := ?_) #[true, true, true, true, true, true, true, true, true, true, true, false] rfl rfl (any_of HT_.out (by kernel_rfl)) (fun _ _ _ h => h) (Or.inl ⟨by rfl, ?_⟩) ?_ ?_
                rotate_left
                ·intro w'
                 go_simp
                 with_reducible rfl
                rotate_left
                ·simp only [Act.put, List.setIfInBounds_toArray, List.set_cons_zero, List.set_cons_succ, i64_w, i32_w]
                 rfl
                refine last_ (i := 11) (N := none) #[true, true, true, true, true, true, true, true, true, true, true, true] rfl rfl (one_of HT_.out (by kernel_rfl)) (by decide) (fun K hK => ?_)
                refine skip_ (w1 := ?_) (by rfl) rfl ?_ ?_
                rotate_left
                ·go_simp
                 rfl
                refine hK.out _ _ ?_
                clear hK K
                refine done_ (done_of HT_.out (by kernel_rfl)) ?_
                try go_wp2
                go_roundg k3
                case measure => have := HK1.out; have := HK2.out; have := HK3.out; omega
                case rel => exact ⟨(y271), (wrap64 (x16_3 + 1)), (by first | rfl | (simp; done) | (simp [*]; done)), H', ⟨by have := HK1.out; have := HK2.out; have := HK3.out; omega⟩, ⟨by (try simp only [hl8_2]); (with_reducible repeat (first | apply Kd.R_alloc | apply Kd.R_drewN | apply Kd.R_drew)); exact HQ71.out⟩, ⟨by (try simp only [hl8_2]); (with_reducible repeat (first | apply Kd.R_alloc | apply Kd.R_drewN | apply Kd.R_drew)); exact Kd.R_mono (Kd.R_far (p := ⟨go66, ((ji63) : Int).toNat * 4 + 1, none⟩) (Kd.R_types HO_14.out GG66.out (by decide)) (fun _ hk => hk.2) (.int .i64 (rd t266 x16_3))) (fun _ hk => hk.1)⟩, ⟨by (try simp only [hl8_2]); (with_reducible repeat (first | refine blk_drewN ?_ _ | refine blk_drew ?_ | refine blk_alloc ?_ _)); refine blk_far ?_ (by have h_ := Kd.R_ne HO_0.out BK242.out (by decide); intro e_; exact h_ (by rw [e_]; rfl)) _; (with_reducible repeat (first | refine blk_drewN ?_ _ | refine blk_drew ?_ | refine blk_alloc ?_ _)); exact BK242.out⟩, ⟨by (try simp only [hl8_2]); (with_reducible repeat (first | refine blk_drewN ?_ _ | refine blk_drew ?_ | refine blk_alloc ?_ _)); refine blk_far ?_ (by have h_ := Kd.R_ne HO_0.out BK243.out (by decide); intro e_; exact h_ (by rw [e_]; rfl)) _; (with_reducible repeat (first | refine blk_drewN ?_ _ | refine blk_drew ?_ | refine blk_alloc ?_ _)); exact BK243.out⟩, ⟨by repeat (first | (with_reducible first | exact HK.out | apply Kept.alloc | apply Kept.drewN | apply Kept.drew | refine Kept.setCell ?_ HMgo66.out _ | refine Kept.setCell ?_ (.inr GW242.out) _ | refine Kept.setCell ?_ (.inr GW243.out) _) | exact HK.out)⟩, ⟨by repeat (first | (with_reducible first | exact HB.out | apply below_alloc | apply pw_below_drewN | apply below_drew1 | refine below_set ?_ GB66.out | refine below_set ?_ GE242.out | refine below_set ?_ GE243.out) | exact HB.out)⟩⟩
               ·rw [if_neg c65] at H
                exact absurd H (by simp)
              ·rw [if_neg c64] at H
               exact absurd H (by simp)
             ·rw [if_neg c62] at H
              exact absurd H (by simp)
            ·rw [if_neg c61] at H
             exact absurd H (by simp)
           ·rw [if_neg c60] at H
            have c60b0 : decide (x16_3 < a1_4) = false := decide_eq_false c60
            clear c60
            have H' := Aside0.mk H
            clear H
            have hnb72 := NB243_242.out
            have hnc72 := NB242_243.out
            have hcz73_0 : wr.cell? ⟨gb243, 0, none⟩ = some (.int .i64 a1_0) := (blk_cell BK243.out 0).trans rfl
            have hcz73_1 : wr.cell? ⟨gb243, 1, none⟩ = some (.int .i64 a1_1) := (blk_cell BK243.out 1).trans rfl
            have hcz73_2 : wr.cell? ⟨gb243, 2, none⟩ = some (.int .i64 a1_2) := (blk_cell BK243.out 2).trans rfl
            have hcz73_3 : wr.cell? ⟨gb243, 3, none⟩ = some (.int .i64 a1_3) := (blk_cell BK243.out 3).trans rfl
            have hcz73_4 : wr.cell? ⟨gb243, 4, none⟩ = some (.int .i64 a1_4) := (blk_cell BK243.out 4).trans rfl
            have hfz73_0 := blk_frozen BK243.out 0
            have hfz73_1 := blk_frozen BK243.out 1
            have hfz73_2 := blk_frozen BK243.out 2
            have hfz73_3 := blk_frozen BK243.out 3
            have hfz73_4 := blk_frozen BK243.out 4
            go_wp2
            go_loopg [17] k3 (fun kq v17 w' => ∃ (x17_4 : Int), v17 = .int .i64 x17_4 ∧ Aside0 (purflingref14_one.l3 kq x0_3 t266 x17_4 a1_0 a1_1 a1_2 a1_3 a1_4 = some (r1, r2)) ∧ Aside0 (kq ≤ k3) ∧ Aside0 (Kd.R k39 39 w' w0.heap.size (fun k_ => (P0_ k_ ∨ w.heap.size ≤ k_)) u9000_ x0_3) ∧ Aside0 (Kd.R (Kd.int .i64) 2 w' w0.heap.size (fun k_ => (P0_ k_ ∨ w.heap.size ≤ k_)) v268 t266) ∧ Aside0 (w'.heap[gb242]? = some (.cells #[.int .i64 a1_0, .int .i64 a1_1, .int .i64 a1_2, .int .i64 a1_3, .int .i64 a1_4, .int .i64 a1_5, .int .i64 a1_6, .int .i64 a1_7, .int .i64 a1_8] 37 (0, 0))) ∧ Aside0 (w'.heap[gb243]? = some (.cells #[.int .i64 a1_0, .int .i64 a1_1, .int .i64 a1_2, .int .i64 a1_3, .int .i64 a1_4] 33 (0, 0))) ∧ Aside0 (Kept w w' (fun k_ => P0_ k_)) ∧ Aside0 (Below w0.heap.size w0 w'))
            case atStart => exact ⟨(0), (by first | rfl | (simp; done) | (simp [*]; done)), H', ⟨Nat.le_refl _⟩, ⟨by (try simp only [hl8_2]); (with_reducible repeat (first | apply Kd.R_alloc | apply Kd.R_drewN | apply Kd.R_drew)); exact HO_0.out⟩, ⟨by (try simp only [hl8_2]); (with_reducible repeat (first | apply Kd.R_alloc | apply Kd.R_drewN | apply Kd.R_drew)); exact HO_14.out⟩, ⟨by (try simp only [hl8_2]); (with_reducible repeat (first | refine blk_drewN ?_ _ | refine blk_drew ?_ | refine blk_alloc ?_ _)); exact BK242.out⟩, ⟨by (try simp only [hl8_2]); (with_reducible repeat (first | refine blk_drewN ?_ _ | refine blk_drew ?_ | refine blk_alloc ?_ _)); exact BK243.out⟩, ⟨by repeat (first | (with_reducible first | exact HK.out | apply Kept.alloc | apply Kept.drewN | apply Kept.drew | refine Kept.setCell ?_ (.inr GW242.out) _ | refine Kept.setCell ?_ (.inr GW243.out) _) | exact HK.out)⟩, ⟨by repeat (first | (with_reducible first | exact HB.out | apply below_alloc | apply pw_below_drewN | apply below_drew1 | refine below_set ?_ GE242.out | refine below_set ?_ GE243.out) | exact HB.out)⟩⟩
            case round =>
             clear H'
             try clear c2
             try clear p2
             try clear q2
             try clear hx2
             try clear c3
             try clear p3
             try clear q3
             try clear hx3
             try clear hf3
             try clear c4
             try clear p4
             try clear q4
             try clear hx4
             try clear hf4
             try clear c5
             try clear c6
             try clear p6
             try clear q6
             try clear hx6
             try clear hf6
             try clear c7
             try clear p25
             try clear q25
             try clear hx25
             try clear p26
             try clear q26
             try clear hx26
             try clear p27
             try clear q27
             try clear hx27
             try clear c29
             try clear c29b0
             try clear c30
             try clear c31
             try clear c33
             try clear c34
             try clear c35
             try clear p35
             try clear q35
             try clear hx35
             try clear hf35
             try clear c36
             try clear c38
             try clear p38
             try clear q38
             try clear hx38
             try clear hf38
             try clear p40
             try clear q40
             try clear hx40
             try clear hf40
             try clear c45
             try clear c48
             try clear c49
             try clear c54
             try clear c54b0
             try clear c54b1
             try clear c55
             try clear c60
             try clear c60b0
             try clear c61
             try clear c61b0
             try clear c62
             try clear c62b0
             try clear c64
             try clear c64b0
             try clear p64
             try clear c65
             try clear c65b0
             try clear c66
             try clear p66
             try clear q66
             try clear hx66
             try clear hf66
             try clear c67
             try clear c71
             try clear c72
             try clear hcz56_0
             try clear hcz56_1
             try clear hcz56_2
             try clear hcz56_3
             try clear hcz56_4
             try clear hcz57_0
             try clear hcz57_1
             try clear hcz57_2
             try clear hcz57_3
             try clear hcz57_4
             try clear hcz57_5
             try clear hcz57_6
             try clear hcz57_7
             try clear hcz57_8
             try clear hcz68_0
             try clear hcz68_1
             try clear hcz68_2
             try clear hcz68_3
             try clear hcz68_4
             try clear hcz73_0
             try clear hcz73_1
             try clear hcz73_2
             try clear hcz73_3
             try clear hcz73_4
             try clear hfz56_0
             try clear hfz56_1
             try clear hfz56_2
             try clear hfz56_3
             try clear hfz56_4
             try clear hfz57_0
             try clear hfz57_1
             try clear hfz57_2
             try clear hfz57_3
             try clear hfz57_4
             try clear hfz57_5
             try clear hfz57_6
             try clear hfz57_7
             try clear hfz57_8
             try clear hfz68_0
             try clear hfz68_1
             try clear hfz68_2
             try clear hfz68_3
             try clear hfz68_4
             try clear hfz73_0
             try clear hfz73_1
             try clear hfz73_2
             try clear hfz73_3
             try clear hfz73_4
             try clear hx257_0
             try clear hx259_0
             try clear hx260_0
             try clear hx262_0
             try clear hx263_0
             try clear hx270_0
             try clear hx35_0
             try clear hx35_1
             try clear hx35_2
             try clear hx35_3
             try clear hx38_0
             try clear hx38_1
             try clear hx38_2
             try clear hx38_3
             try clear hx40_0
             try clear hx66_0
             try clear hx66_1
             try clear hx66_2
             try clear hx66_3
             try clear p2
             try clear p25
             try clear p257
             try clear p259
             try clear p26
             try clear p260
             try clear p262
             try clear p263
             try clear p270
             try clear p3
             try clear p35
             try clear p38
             try clear p4
             try clear p40
             try clear p6
             try clear p66
             try clear q2
             try clear q25
             try clear q257
             try clear q259
             try clear q26
             try clear q260
             try clear q262
             try clear q263
             try clear q270
             try clear q3
             try clear q35
             try clear q38
             try clear q4
             try clear q40
             try clear q66
             obtain ⟨x17_4, rfl, HA, HK4, HO_0, HO_14, BK242, BK243, HK, HB⟩ := hrel
             cases gk with
             | zero => exact absurd HA.out (by simp [purflingref14_one.l3])
             | succ k4 =>
              have H := HA.out
              clear HA
              simp only [purflingref14_one.l3] at H
              by_cases c74 : x17_4 < a1_4
              ·rw [if_pos c74] at H
               have c74b0 : decide (x17_4 < a1_4) = true := decide_eq_true c74
               clear c74
               by_cases c75 : 0 ≤ x17_4
               ·rw [if_pos c75] at H
                have c75b0 : decide (0 ≤ x17_4) = true := decide_eq_true c75
                clear c75
                by_cases c76 : x17_4 < (t266.length : Int)
                ·rw [if_pos c76] at H
                 have c76b0 : decide (x17_4 < (t266.length : Int)) = true := decide_eq_true c76
                 clear c76
                 by_cases c77 : (rd t266 x17_4) > 1125899906842623
                 ·rw [if_pos c77] at H
                  have c77b0 : decide (1125899906842623 < (rd t266 x17_4)) = true := decide_eq_true c77
                  clear c77
                  simp only [Option.some.injEq, Prod.mk.injEq] at H
                  obtain ⟨rfl, rfl⟩ := H
                  have hnb78 := NB243_242.out
                  have hnc78 := NB242_243.out
                  have hcz79_0 : wr.cell? ⟨gb243, 0, none⟩ = some (.int .i64 a1_0) := (blk_cell BK243.out 0).trans rfl
                  have hcz79_1 : wr.cell? ⟨gb243, 1, none⟩ = some (.int .i64 a1_1) := (blk_cell BK243.out 1).trans rfl
                  have hcz79_2 : wr.cell? ⟨gb243, 2, none⟩ = some (.int .i64 a1_2) := (blk_cell BK243.out 2).trans rfl
                  have hcz79_3 : wr.cell? ⟨gb243, 3, none⟩ = some (.int .i64 a1_3) := (blk_cell BK243.out 3).trans rfl
                  have hcz79_4 : wr.cell? ⟨gb243, 4, none⟩ = some (.int .i64 a1_4) := (blk_cell BK243.out 4).trans rfl
                  have hfz79_0 := blk_frozen BK243.out 0
                  have hfz79_1 := blk_frozen BK243.out 1
                  have hfz79_2 := blk_frozen BK243.out 2
                  have hfz79_3 := blk_frozen BK243.out 3
                  have hfz79_4 := blk_frozen BK243.out 4
                  obtain ⟨Ao80, co80, eo80⟩ := Kd.R_slice HO_14.out
                  subst eo80
                  have p272 : 0 ≤ (x17_4 : Int) := of_decide_eq_true (by first | (with_reducible assumption) | assumption)
                  have q272 : x17_4 < (t266.length : Int) := of_decide_eq_true (by first | (with_reducible assumption) | assumption)
                  obtain ⟨ad272, e272, hx272_0⟩ := Kd.at_int (Kd.R_reads' HO_14.out).2.2 x17_4 p272 q272
                  cases e272
                  replace p272 := eq_true p272
                  replace q272 := eq_true q272
                  go_wp2
                  go_ret
                  exact ⟨by first | rfl | (simp [errW_none, errW_some] <;> rfl) | (simp [*, errW_none, errW_some] <;> rfl), (by first | exact (by (with_reducible repeat (first | apply Kd.R_alloc | apply Kd.R_drewN | apply Kd.R_drew)); exact HO_0.out) | (simp only [hl8_2]; exact (by (with_reducible repeat (first | apply Kd.R_alloc | apply Kd.R_drewN | apply Kd.R_drew)); exact HO_0.out))), by repeat (first | (with_reducible first | exact HB.out | apply below_alloc | apply pw_below_drewN | apply below_drew1 | refine below_set ?_ GE242.out | refine below_set ?_ GE243.out) | exact HB.out), by repeat (first | (with_reducible first | exact HK.out | apply Kept.alloc | apply Kept.drewN | apply Kept.drew | refine Kept.setCell ?_ (.inr GW242.out) _ | refine Kept.setCell ?_ (.inr GW243.out) _) | exact HK.out)⟩
                 ·rw [if_neg c77] at H
                  have c77b0 : decide (1125899906842623 < (rd t266 x17_4)) = false := decide_eq_false c77
                  clear c77
                  have H' := Aside0.mk H
                  clear H
                  have hnb81 := NB243_242.out
                  have hnc81 := NB242_243.out
                  have hcz82_0 : wr.cell? ⟨gb243, 0, none⟩ = some (.int .i64 a1_0) := (blk_cell BK243.out 0).trans rfl
                  have hcz82_1 : wr.cell? ⟨gb243, 1, none⟩ = some (.int .i64 a1_1) := (blk_cell BK243.out 1).trans rfl
                  have hcz82_2 : wr.cell? ⟨gb243, 2, none⟩ = some (.int .i64 a1_2) := (blk_cell BK243.out 2).trans rfl
                  have hcz82_3 : wr.cell? ⟨gb243, 3, none⟩ = some (.int .i64 a1_3) := (blk_cell BK243.out 3).trans rfl
                  have hcz82_4 : wr.cell? ⟨gb243, 4, none⟩ = some (.int .i64 a1_4) := (blk_cell BK243.out 4).trans rfl
                  have hfz82_0 := blk_frozen BK243.out 0
                  have hfz82_1 := blk_frozen BK243.out 1
                  have hfz82_2 := blk_frozen BK243.out 2
                  have hfz82_3 := blk_frozen BK243.out 3
                  have hfz82_4 := blk_frozen BK243.out 4
                  obtain ⟨Ao83, co83, eo83⟩ := Kd.R_slice HO_14.out
                  subst eo83
                  have p272 : 0 ≤ (x17_4 : Int) := of_decide_eq_true (by first | (with_reducible assumption) | assumption)
                  have q272 : x17_4 < (t266.length : Int) := of_decide_eq_true (by first | (with_reducible assumption) | assumption)
                  obtain ⟨ad272, e272, hx272_0⟩ := Kd.at_int (Kd.R_reads' HO_14.out).2.2 x17_4 p272 q272
                  cases e272
                  replace p272 := eq_true p272
                  replace q272 := eq_true q272
                  go_wp2
                  go_roundg k4
                  case measure => have := HK1.out; have := HK2.out; have := HK3.out; have := HK4.out; omega
                  case rel => exact ⟨(wrap64 (x17_4 + 1)), (by first | rfl | (simp; done) | (simp [*]; done)), H', ⟨by have := HK1.out; have := HK2.out; have := HK3.out; have := HK4.out; omega⟩, ⟨by (try simp only [hl8_2]); (with_reducible repeat (first | apply Kd.R_alloc | apply Kd.R_drewN | apply Kd.R_drew)); exact HO_0.out⟩, ⟨by (try simp only [hl8_2]); (with_reducible repeat (first | apply Kd.R_alloc | apply Kd.R_drewN | apply Kd.R_drew)); exact HO_14.out⟩, ⟨by (try simp only [hl8_2]); (with_reducible repeat (first | refine blk_drewN ?_ _ | refine blk_drew ?_ | refine blk_alloc ?_ _)); exact BK242.out⟩, ⟨by (try simp only [hl8_2]); (with_reducible repeat (first | refine blk_drewN ?_ _ | refine blk_drew ?_ | refine blk_alloc ?_ _)); exact BK243.out⟩, ⟨by repeat (first | (with_reducible first | exact HK.out | apply Kept.alloc | apply Kept.drewN | apply Kept.drew | refine Kept.setCell ?_ (.inr GW242.out) _ | refine Kept.setCell ?_ (.inr GW243.out) _) | exact HK.out)⟩, ⟨by repeat (first | (with_reducible first | exact HB.out | apply below_alloc | apply pw_below_drewN | apply below_drew1 | refine below_set ?_ GE242.out | refine below_set ?_ GE243.out) | exact HB.out)⟩⟩
                ·rw [if_neg c76] at H
                 exact absurd H (by simp)
               ·rw [if_neg c75] at H
                exact absurd H (by simp)
              ·rw [if_neg c74] at H
               have c74b0 : decide (x17_4 < a1_4) = false := decide_eq_false c74
               clear c74
               simp only [Option.some.injEq, Prod.mk.injEq] at H
               obtain ⟨rfl, rfl⟩ := H
               have hnb84 := NB243_242.out
               have hnc84 := NB242_243.out
               have hcz85_0 : wr.cell? ⟨gb243, 0, none⟩ = some (.int .i64 a1_0) := (blk_cell BK243.out 0).trans rfl
               have hcz85_1 : wr.cell? ⟨gb243, 1, none⟩ = some (.int .i64 a1_1) := (blk_cell BK243.out 1).trans rfl
               have hcz85_2 : wr.cell? ⟨gb243, 2, none⟩ = some (.int .i64 a1_2) := (blk_cell BK243.out 2).trans rfl
               have hcz85_3 : wr.cell? ⟨gb243, 3, none⟩ = some (.int .i64 a1_3) := (blk_cell BK243.out 3).trans rfl
               have hcz85_4 : wr.cell? ⟨gb243, 4, none⟩ = some (.int .i64 a1_4) := (blk_cell BK243.out 4).trans rfl
               have hfz85_0 := blk_frozen BK243.out 0
               have hfz85_1 := blk_frozen BK243.out 1
               have hfz85_2 := blk_frozen BK243.out 2
               have hfz85_3 := blk_frozen BK243.out 3
               have hfz85_4 := blk_frozen BK243.out 4
               go_wp2
               go_ret
               exact ⟨by first | rfl | (simp [errW_none, errW_some] <;> rfl) | (simp [*, errW_none, errW_some] <;> rfl), (by first | exact (by (with_reducible repeat (first | apply Kd.R_alloc | apply Kd.R_drewN | apply Kd.R_drew)); exact HO_0.out) | (simp only [hl8_2]; exact (by (with_reducible repeat (first | apply Kd.R_alloc | apply Kd.R_drewN | apply Kd.R_drew)); exact HO_0.out))), by repeat (first | (with_reducible first | exact HB.out | apply below_alloc | apply pw_below_drewN | apply below_drew1 | refine below_set ?_ GE242.out | refine below_set ?_ GE243.out) | exact HB.out), by repeat (first | (with_reducible first | exact HK.out | apply Kept.alloc | apply Kept.drewN | apply Kept.drew | refine Kept.setCell ?_ (.inr GW242.out) _ | refine Kept.setCell ?_ (.inr GW243.out) _) | exact HK.out)⟩
        ·rw [if_neg c54] at H
         have c54b0 : (t267 == 0) = false := beq_eq_false_iff_ne.mpr c54
         have c54b1 : (t267 != 0) = true := bne_iff_ne.mpr c54
         simp only [Option.some.injEq, Prod.mk.injEq] at H
         obtain ⟨rfl, rfl⟩ := H
         have hnb86 := NB243_242.out
         have hnc86 := NB242_243.out
         have hcz87_0 : wr.cell? ⟨gb243, 0, none⟩ = some (.int .i64 a1_0) := (blk_cell BK243.out 0).trans rfl
         have hcz87_1 : wr.cell? ⟨gb243, 1, none⟩ = some (.int .i64 a1_1) := (blk_cell BK243.out 1).trans rfl
         have hcz87_2 : wr.cell? ⟨gb243, 2, none⟩ = some (.int .i64 a1_2) := (blk_cell BK243.out 2).trans rfl
         have hcz87_3 : wr.cell? ⟨gb243, 3, none⟩ = some (.int .i64 a1_3) := (blk_cell BK243.out 3).trans rfl
         have hcz87_4 : wr.cell? ⟨gb243, 4, none⟩ = some (.int .i64 a1_4) := (blk_cell BK243.out 4).trans rfl
         have hfz87_0 := blk_frozen BK243.out 0
         have hfz87_1 := blk_frozen BK243.out 1
         have hfz87_2 := blk_frozen BK243.out 2
         have hfz87_3 := blk_frozen BK243.out 3
         have hfz87_4 := blk_frozen BK243.out 4
         have hcz88_0 : wr.cell? ⟨gb242, 0, none⟩ = some (.int .i64 a1_0) := (blk_cell BK242.out 0).trans rfl
         have hcz88_1 : wr.cell? ⟨gb242, 1, none⟩ = some (.int .i64 a1_1) := (blk_cell BK242.out 1).trans rfl
         have hcz88_2 : wr.cell? ⟨gb242, 2, none⟩ = some (.int .i64 a1_2) := (blk_cell BK242.out 2).trans rfl
         have hcz88_3 : wr.cell? ⟨gb242, 3, none⟩ = some (.int .i64 a1_3) := (blk_cell BK242.out 3).trans rfl
         have hcz88_4 : wr.cell? ⟨gb242, 4, none⟩ = some (.int .i64 a1_4) := (blk_cell BK242.out 4).trans rfl
         have hcz88_5 : wr.cell? ⟨gb242, 5, none⟩ = some (.int .i64 a1_5) := (blk_cell BK242.out 5).trans rfl
         have hcz88_6 : wr.cell? ⟨gb242, 6, none⟩ = some (.int .i64 a1_6) := (blk_cell BK242.out 6).trans rfl
         have hcz88_7 : wr.cell? ⟨gb242, 7, none⟩ = some (.int .i64 a1_7) := (blk_cell BK242.out 7).trans rfl
         have hcz88_8 : wr.cell? ⟨gb242, 8, none⟩ = some (.int .i64 a1_8) := (blk_cell BK242.out 8).trans rfl
         have hfz88_0 := blk_frozen BK242.out 0
         have hfz88_1 := blk_frozen BK242.out 1
         have hfz88_2 := blk_frozen BK242.out 2
         have hfz88_3 := blk_frozen BK242.out 3
         have hfz88_4 := blk_frozen BK242.out 4
         have hfz88_5 := blk_frozen BK242.out 5
         have hfz88_6 := blk_frozen BK242.out 6
         have hfz88_7 := blk_frozen BK242.out 7
         have hfz88_8 := blk_frozen BK242.out 8
         go_wp2_with (first | ((with_reducible refine gate_callee (f := 49) rfl ?_); refine goesL_ (some 112) rfl rfl Try.func49 (by kernel_rfl) rfl #[.int .i64 a1_6, .int .i64 a2, .int .i64 a1_4] rfl (by (try simp only [List.map_toArray, List.map_cons, List.map_nil]); first | done | rfl | (simp only [List.length_drop, List.length_take]; rfl)) ?_; (with_reducible refine (purflingref14_Part.calls k2 a1_6 a2 a1_4 t265 _ A52.out).mono ?_); rintro e w89 ⟨rfl, hb⟩; refine ⟨_, rfl, ?_⟩; have n0_ := Aside0.mk (Kd.R_below (by (with_reducible repeat (first | apply Kd.R_alloc | apply Kd.R_drewN | apply Kd.R_drew)); exact HO_0.out) hb); have n1_ := Aside0.mk (Kd.R_below (by (with_reducible repeat (first | apply Kd.R_alloc | apply Kd.R_drewN | apply Kd.R_drew)); exact HO_8.out) hb); have n2_ := Aside0.mk (Kd.R_below (by (with_reducible repeat (first | apply Kd.R_alloc | apply Kd.R_drewN | apply Kd.R_drew)); exact HO_11.out) hb); have n3_ := Aside0.mk (blk_below (g := gb242) (o := .cells #[.int .i64 a1_0, .int .i64 a1_1, .int .i64 a1_2, .int .i64 a1_3, .int .i64 a1_4, .int .i64 a1_5, .int .i64 a1_6, .int .i64 a1_7, .int .i64 a1_8] 37 (0, 0)) (by (with_reducible repeat (first | refine blk_drewN ?_ _ | refine blk_drew ?_ | refine blk_alloc ?_ _)); exact BK242.out) hb); have n4_ := Aside0.mk (blk_below (g := gb243) (o := .cells #[.int .i64 a1_0, .int .i64 a1_1, .int .i64 a1_2, .int .i64 a1_3, .int .i64 a1_4] 33 (0, 0)) (by (with_reducible repeat (first | refine blk_drewN ?_ _ | refine blk_drew ?_ | refine blk_alloc ?_ _)); exact BK243.out) hb); have n5_ := Aside0.mk (Kept.below (S := (fun k_ => P0_ k_)) (by repeat (first | (with_reducible first | exact HK.out | apply Kept.alloc | apply Kept.drewN | apply Kept.drew | refine Kept.setCell ?_ (.inr GW242.out) _ | refine Kept.setCell ?_ (.inr GW243.out) _) | exact HK.out)) hb); have n6_ := Aside0.mk (below_step (by repeat (first | (with_reducible first | exact HB.out | apply below_alloc | apply pw_below_drewN | apply below_drew1 | refine below_set ?_ GE242.out | refine below_set ?_ GE243.out) | exact HB.out)) hb); clear HO_0; clear HO_8; clear HO_11; clear BK242; clear BK243; clear HK; clear HB; have HO_0 := n0_; have HO_8 := n1_; have HO_11 := n2_; have BK242 := n3_; have BK243 := n4_; have HK := n5_; have HB := n6_; clear n0_ n1_ n2_ n3_ n4_ n5_ n6_; (try clear hb); (try clear hb2); (try clear hk); (try clear hi)) | ((with_reducible refine gate_callee (f := 48) rfl ?_); refine goesL_ (some 115) rfl rfl Try.func48 (by kernel_rfl) rfl #[.int .i64 t265, .slice Ao27 x8_2.length co27, .slice Ao27 x8_2.length co27] rfl (by (try simp only [List.map_toArray, List.map_cons, List.map_nil]); first | done | rfl | (simp only [List.length_drop, List.length_take]; rfl)) ?_; (with_reducible refine (purflingref14_Over.calls k2 t265 _ _ x8_2 _ _ x8_2 t266 t267 _ ?side1 ?side2 ?side3 ?side4 A53.out).mono ?_); (case side1 => repeat (first | exact (Kd.R_reads' HO_8.out).2.2 | (with_reducible refine Kd.C_alloc ?_ _) | (with_reducible refine Kd.C_drewN ?_ _) | (with_reducible refine Kd.C_drew ?_))); (case side2 => exact (Kd.R_reads' HO_8.out).2.1); (case side3 => repeat (first | exact (Kd.R_reads' HO_8.out).2.2 | (with_reducible refine Kd.C_alloc ?_ _) | (with_reducible refine Kd.C_drewN ?_ _) | (with_reducible refine Kd.C_drew ?_))); (case side4 => exact (Kd.R_reads' HO_8.out).2.1); rintro e w90 ⟨v268, rfl, ho0, hb⟩; refine ⟨_, rfl, ?_⟩; have n0_ := Aside0.mk (Kd.R_below (by (with_reducible repeat (first | apply Kd.R_alloc | apply Kd.R_drewN | apply Kd.R_drew)); exact HO_0.out) hb); have n1_ := Aside0.mk (Kd.R_elder' (by (with_reducible repeat (first | apply Kd.R_alloc | apply Kd.R_drewN | apply Kd.R_drew)); exact HO_8.out) (Kd.R_base ho0) hb); have n2_ := Aside0.mk (Kd.R_elder' (by (with_reducible repeat (first | apply Kd.R_alloc | apply Kd.R_drewN | apply Kd.R_drew)); exact HO_11.out) (Kd.R_base ho0) hb); have n3_ := Aside0.mk (Kd.R_lower (Kd.R_new' (Kd.R_new' (Kd.R_newM (M := fun k_ => (P0_ k_ ∨ w.heap.size ≤ k_)) ho0 (by first | exact HK.out.1 | exact (show Kept w _ (fun k_ => P0_ k_) from by repeat (first | (with_reducible first | exact HK.out | apply Kept.alloc | apply Kept.drewN | apply Kept.drew | refine Kept.setCell ?_ (.inr GW242.out) _ | refine Kept.setCell ?_ (.inr GW243.out) _) | exact HK.out)).1) (fun k_ h_ => .inr h_)) (Kd.R_lt (by (with_reducible repeat (first | apply Kd.R_alloc | apply Kd.R_drewN | apply Kd.R_drew)); exact HO_8.out))) (Kd.R_lt (by (with_reducible repeat (first | apply Kd.R_alloc | apply Kd.R_drewN | apply Kd.R_drew)); exact HO_11.out))) (below_size (by repeat (first | (with_reducible first | exact HB.out | apply below_alloc | apply pw_below_drewN | apply below_drew1 | refine below_set ?_ GE242.out | refine below_set ?_ GE243.out) | exact HB.out)))); have n4_ := Aside0.mk (blk_below (g := gb242) (o := .cells #[.int .i64 a1_0, .int .i64 a1_1, .int .i64 a1_2, .int .i64 a1_3, .int .i64 a1_4, .int .i64 a1_5, .int .i64 a1_6, .int .i64 a1_7, .int .i64 a1_8] 37 (0, 0)) (by (with_reducible repeat (first | refine blk_drewN ?_ _ | refine blk_drew ?_ | refine blk_alloc ?_ _)); exact BK242.out) hb); have n5_ := Aside0.mk (blk_below (g := gb243) (o := .cells #[.int .i64 a1_0, .int .i64 a1_1, .int .i64 a1_2, .int .i64 a1_3, .int .i64 a1_4] 33 (0, 0)) (by (with_reducible repeat (first | refine blk_drewN ?_ _ | refine blk_drew ?_ | refine blk_alloc ?_ _)); exact BK243.out) hb); have n6_ := Aside0.mk (Kept.below (S := (fun k_ => P0_ k_)) (by repeat (first | (with_reducible first | exact HK.out | apply Kept.alloc | apply Kept.drewN | apply Kept.drew | refine Kept.setCell ?_ (.inr GW242.out) _ | refine Kept.setCell ?_ (.inr GW243.out) _) | exact HK.out)) hb); have n7_ := Aside0.mk (below_step (by repeat (first | (with_reducible first | exact HB.out | apply below_alloc | apply pw_below_drewN | apply below_drew1 | refine below_set ?_ GE242.out | refine below_set ?_ GE243.out) | exact HB.out)) hb); clear HO_0; clear HO_8; clear HO_11; clear BK242; clear BK243; clear HK; clear HB; have HO_0 := n0_; have HO_8 := n1_; have HO_11 := n2_; have HO269 := n3_; have BK242 := n4_; have BK243 := n5_; have HK := n6_; have HB := n7_; clear n0_ n1_ n2_ n3_ n4_ n5_ n6_ n7_; (try clear hb); (try clear hb2); (try clear hk); (try clear hi); (try clear ho0)))
         go_ret
         exact ⟨by first | rfl | (simp [errW_none, errW_some] <;> rfl) | (simp [*, errW_none, errW_some] <;> rfl), (by first | exact (by (with_reducible repeat (first | apply Kd.R_alloc | apply Kd.R_drewN | apply Kd.R_drew)); exact HO_0.out) | (simp only [hl8_2]; exact (by (with_reducible repeat (first | apply Kd.R_alloc | apply Kd.R_drewN | apply Kd.R_drew)); exact HO_0.out))), by repeat (first | (with_reducible first | exact HB.out | apply below_alloc | apply pw_below_drewN | apply below_drew1 | refine below_set ?_ GE242.out | refine below_set ?_ GE243.out) | exact HB.out), by repeat (first | (with_reducible first | exact HK.out | apply Kept.alloc | apply Kept.drewN | apply Kept.drew | refine Kept.setCell ?_ (.inr GW242.out) _ | refine Kept.setCell ?_ (.inr GW243.out) _) | exact HK.out)⟩
    ·rw [if_neg c21] at H
     have c21b0 : (t254 == 0) = false := beq_eq_false_iff_ne.mpr c21
     have c21b1 : (t254 != 0) = true := bne_iff_ne.mpr c21
     simp only [Option.some.injEq, Prod.mk.injEq] at H
     obtain ⟨rfl, rfl⟩ := H
     have hnb91 := NB243_242.out
     have hnc91 := NB242_243.out
     have hcz92_0 : wr.cell? ⟨gb243, 0, none⟩ = some (.int .i64 a1_0) := (blk_cell BK243.out 0).trans rfl
     have hcz92_1 : wr.cell? ⟨gb243, 1, none⟩ = some (.int .i64 a1_1) := (blk_cell BK243.out 1).trans rfl
     have hcz92_2 : wr.cell? ⟨gb243, 2, none⟩ = some (.int .i64 a1_2) := (blk_cell BK243.out 2).trans rfl
     have hcz92_3 : wr.cell? ⟨gb243, 3, none⟩ = some (.int .i64 a1_3) := (blk_cell BK243.out 3).trans rfl
     have hcz92_4 : wr.cell? ⟨gb243, 4, none⟩ = some (.int .i64 a1_4) := (blk_cell BK243.out 4).trans rfl
     have hfz92_0 := blk_frozen BK243.out 0
     have hfz92_1 := blk_frozen BK243.out 1
     have hfz92_2 := blk_frozen BK243.out 2
     have hfz92_3 := blk_frozen BK243.out 3
     have hfz92_4 := blk_frozen BK243.out 4
     have hcz93_0 : wr.cell? ⟨gb242, 0, none⟩ = some (.int .i64 a1_0) := (blk_cell BK242.out 0).trans rfl
     have hcz93_1 : wr.cell? ⟨gb242, 1, none⟩ = some (.int .i64 a1_1) := (blk_cell BK242.out 1).trans rfl
     have hcz93_2 : wr.cell? ⟨gb242, 2, none⟩ = some (.int .i64 a1_2) := (blk_cell BK242.out 2).trans rfl
     have hcz93_3 : wr.cell? ⟨gb242, 3, none⟩ = some (.int .i64 a1_3) := (blk_cell BK242.out 3).trans rfl
     have hcz93_4 : wr.cell? ⟨gb242, 4, none⟩ = some (.int .i64 a1_4) := (blk_cell BK242.out 4).trans rfl
     have hcz93_5 : wr.cell? ⟨gb242, 5, none⟩ = some (.int .i64 a1_5) := (blk_cell BK242.out 5).trans rfl
     have hcz93_6 : wr.cell? ⟨gb242, 6, none⟩ = some (.int .i64 a1_6) := (blk_cell BK242.out 6).trans rfl
     have hcz93_7 : wr.cell? ⟨gb242, 7, none⟩ = some (.int .i64 a1_7) := (blk_cell BK242.out 7).trans rfl
     have hcz93_8 : wr.cell? ⟨gb242, 8, none⟩ = some (.int .i64 a1_8) := (blk_cell BK242.out 8).trans rfl
     have hfz93_0 := blk_frozen BK242.out 0
     have hfz93_1 := blk_frozen BK242.out 1
     have hfz93_2 := blk_frozen BK242.out 2
     have hfz93_3 := blk_frozen BK242.out 3
     have hfz93_4 := blk_frozen BK242.out 4
     have hfz93_5 := blk_frozen BK242.out 5
     have hfz93_6 := blk_frozen BK242.out 6
     have hfz93_7 := blk_frozen BK242.out 7
     have hfz93_8 := blk_frozen BK242.out 8
     go_wp2_with (first | ((with_reducible refine gate_callee (f := 49) rfl ?_); refine goesL_ (some 53) rfl rfl Try.func49 (by kernel_rfl) rfl #[.int .i64 a1_5, .int .i64 a2, .int .i64 a1_4] rfl (by (try simp only [List.map_toArray, List.map_cons, List.map_nil]); first | done | rfl | (simp only [List.length_drop, List.length_take]; rfl)) ?_; (with_reducible refine (purflingref14_Part.calls k1 a1_5 a2 a1_4 t252 _ A19.out).mono ?_); rintro e w94 ⟨rfl, hb⟩; refine ⟨_, rfl, ?_⟩; have n0_ := Aside0.mk (Kd.R_below (by (with_reducible repeat (first | apply Kd.R_alloc | apply Kd.R_drewN | apply Kd.R_drew)); exact HO_0.out) hb); have n1_ := Aside0.mk (Kd.R_below (by (with_reducible repeat (first | apply Kd.R_alloc | apply Kd.R_drewN | apply Kd.R_drew)); exact HO_7.out) hb); have n2_ := Aside0.mk (Kd.R_below (by (with_reducible repeat (first | apply Kd.R_alloc | apply Kd.R_drewN | apply Kd.R_drew)); exact HO_8.out) hb); have n3_ := Aside0.mk (blk_below (g := gb242) (o := .cells #[.int .i64 a1_0, .int .i64 a1_1, .int .i64 a1_2, .int .i64 a1_3, .int .i64 a1_4, .int .i64 a1_5, .int .i64 a1_6, .int .i64 a1_7, .int .i64 a1_8] 37 (0, 0)) (by (with_reducible repeat (first | refine blk_drewN ?_ _ | refine blk_drew ?_ | refine blk_alloc ?_ _)); exact BK242.out) hb); have n4_ := Aside0.mk (blk_below (g := gb243) (o := .cells #[.int .i64 a1_0, .int .i64 a1_1, .int .i64 a1_2, .int .i64 a1_3, .int .i64 a1_4] 33 (0, 0)) (by (with_reducible repeat (first | refine blk_drewN ?_ _ | refine blk_drew ?_ | refine blk_alloc ?_ _)); exact BK243.out) hb); have n5_ := Aside0.mk (Kept.below (S := (fun k_ => P0_ k_)) (by repeat (first | (with_reducible first | exact HK.out | apply Kept.alloc | apply Kept.drewN | apply Kept.drew | refine Kept.setCell ?_ (.inr GW242.out) _ | refine Kept.setCell ?_ (.inr GW243.out) _) | exact HK.out)) hb); have n6_ := Aside0.mk (below_step (by repeat (first | (with_reducible first | exact HB.out | apply below_alloc | apply pw_below_drewN | apply below_drew1 | refine below_set ?_ GE242.out | refine below_set ?_ GE243.out) | exact HB.out)) hb); clear HO_0; clear HO_7; clear HO_8; clear BK242; clear BK243; clear HK; clear HB; have HO_0 := n0_; have HO_7 := n1_; have HO_8 := n2_; have BK242 := n3_; have BK243 := n4_; have HK := n5_; have HB := n6_; clear n0_ n1_ n2_ n3_ n4_ n5_ n6_; (try clear hb); (try clear hb2); (try clear hk); (try clear hi); obtain ⟨Ao95, co95, eo95⟩ := Kd.R_slice HO_7.out; subst eo95; obtain ⟨Ao96, co96, eo96⟩ := Kd.R_slice HO_8.out; subst eo96) | ((with_reducible refine gate_callee (f := 48) rfl ?_); refine goesL_ (some 56) rfl rfl Try.func48 (by kernel_rfl) rfl #[.int .i64 t252, .slice Ao95 x7_1.length co95, .slice Ao96 x8_1.length co96] rfl (by (try simp only [List.map_toArray, List.map_cons, List.map_nil]); first | done | rfl | (simp only [List.length_drop, List.length_take]; rfl)) ?_; (with_reducible refine (purflingref14_Over.calls k1 t252 _ _ x7_1 _ _ x8_1 t253 t254 _ ?side1 ?side2 ?side3 ?side4 A20.out).mono ?_); (case side1 => repeat (first | exact (Kd.R_reads' HO_7.out).2.2 | (with_reducible refine Kd.C_alloc ?_ _) | (with_reducible refine Kd.C_drewN ?_ _) | (with_reducible refine Kd.C_drew ?_))); (case side2 => exact (Kd.R_reads' HO_7.out).2.1); (case side3 => repeat (first | exact (Kd.R_reads' HO_8.out).2.2 | (with_reducible refine Kd.C_alloc ?_ _) | (with_reducible refine Kd.C_drewN ?_ _) | (with_reducible refine Kd.C_drew ?_))); (case side4 => exact (Kd.R_reads' HO_8.out).2.1); rintro e w97 ⟨v255, rfl, ho0, hb⟩; refine ⟨_, rfl, ?_⟩; have n0_ := Aside0.mk (Kd.R_below (by (with_reducible repeat (first | apply Kd.R_alloc | apply Kd.R_drewN | apply Kd.R_drew)); exact HO_0.out) hb); have n1_ := Aside0.mk (Kd.R_elder' (by (with_reducible repeat (first | apply Kd.R_alloc | apply Kd.R_drewN | apply Kd.R_drew)); exact HO_7.out) (Kd.R_base ho0) hb); have n2_ := Aside0.mk (Kd.R_elder' (by (with_reducible repeat (first | apply Kd.R_alloc | apply Kd.R_drewN | apply Kd.R_drew)); exact HO_8.out) (Kd.R_base ho0) hb); have n3_ := Aside0.mk (Kd.R_lower (Kd.R_new' (Kd.R_new' (Kd.R_newM (M := fun k_ => (P0_ k_ ∨ w.heap.size ≤ k_)) ho0 (by first | exact HK.out.1 | exact (show Kept w _ (fun k_ => P0_ k_) from by repeat (first | (with_reducible first | exact HK.out | apply Kept.alloc | apply Kept.drewN | apply Kept.drew | refine Kept.setCell ?_ (.inr GW242.out) _ | refine Kept.setCell ?_ (.inr GW243.out) _) | exact HK.out)).1) (fun k_ h_ => .inr h_)) (Kd.R_lt (by (with_reducible repeat (first | apply Kd.R_alloc | apply Kd.R_drewN | apply Kd.R_drew)); exact HO_7.out))) (Kd.R_lt (by (with_reducible repeat (first | apply Kd.R_alloc | apply Kd.R_drewN | apply Kd.R_drew)); exact HO_8.out))) (below_size (by repeat (first | (with_reducible first | exact HB.out | apply below_alloc | apply pw_below_drewN | apply below_drew1 | refine below_set ?_ GE242.out | refine below_set ?_ GE243.out) | exact HB.out)))); have n4_ := Aside0.mk (blk_below (g := gb242) (o := .cells #[.int .i64 a1_0, .int .i64 a1_1, .int .i64 a1_2, .int .i64 a1_3, .int .i64 a1_4, .int .i64 a1_5, .int .i64 a1_6, .int .i64 a1_7, .int .i64 a1_8] 37 (0, 0)) (by (with_reducible repeat (first | refine blk_drewN ?_ _ | refine blk_drew ?_ | refine blk_alloc ?_ _)); exact BK242.out) hb); have n5_ := Aside0.mk (blk_below (g := gb243) (o := .cells #[.int .i64 a1_0, .int .i64 a1_1, .int .i64 a1_2, .int .i64 a1_3, .int .i64 a1_4] 33 (0, 0)) (by (with_reducible repeat (first | refine blk_drewN ?_ _ | refine blk_drew ?_ | refine blk_alloc ?_ _)); exact BK243.out) hb); have n6_ := Aside0.mk (Kept.below (S := (fun k_ => P0_ k_)) (by repeat (first | (with_reducible first | exact HK.out | apply Kept.alloc | apply Kept.drewN | apply Kept.drew | refine Kept.setCell ?_ (.inr GW242.out) _ | refine Kept.setCell ?_ (.inr GW243.out) _) | exact HK.out)) hb); have n7_ := Aside0.mk (below_step (by repeat (first | (with_reducible first | exact HB.out | apply below_alloc | apply pw_below_drewN | apply below_drew1 | refine below_set ?_ GE242.out | refine below_set ?_ GE243.out) | exact HB.out)) hb); clear HO_0; clear HO_7; clear HO_8; clear BK242; clear BK243; clear HK; clear HB; have HO_0 := n0_; have HO_7 := n1_; have HO_8 := n2_; have HO256 := n3_; have BK242 := n4_; have BK243 := n5_; have HK := n6_; have HB := n7_; clear n0_ n1_ n2_ n3_ n4_ n5_ n6_ n7_; (try clear hb); (try clear hb2); (try clear hk); (try clear hi); (try clear ho0)))
     go_ret
     exact ⟨by first | rfl | (simp [errW_none, errW_some] <;> rfl) | (simp [*, errW_none, errW_some] <;> rfl), by (with_reducible repeat (first | apply Kd.R_alloc | apply Kd.R_drewN | apply Kd.R_drew)); exact HO_0.out, by repeat (first | (with_reducible first | exact HB.out | apply below_alloc | apply pw_below_drewN | apply below_drew1 | refine below_set ?_ GE242.out | refine below_set ?_ GE243.out) | exact HB.out), by repeat (first | (with_reducible first | exact HK.out | apply Kept.alloc | apply Kept.drewN | apply Kept.drew | refine Kept.setCell ?_ (.inr GW242.out) _ | refine Kept.setCell ?_ (.inr GW243.out) _) | exact HK.out)⟩

end Go.Proofs.Ytacigmhhegaieaa.PA
