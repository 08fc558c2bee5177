-- MADE by wip/tools/xprint.py of this repo: the kit's print.py, turned by this session, and texts by hand
import Derived.Test.YtgghbmhmpkeccaaPAx0
import Derived.Test.YtgghbmhmpkeccaaPAx8
import Derived.Test.YtgghbmhmpkeccaaPAx16
import Derived.Test.YtgghbmhmpkeccaaPAx20
namespace Go.Proofs.Ytgghbmhmpkeccaa.PA
open Go.RowKit Go.Proofs.YtgghbmhmpkeccaaW.PrintWords Go.Proofs.YtgghbmhmpkeccaaW.PrintLast Go.Proofs.YtgghbmhmpkeccaaW.PrintMore
attribute [local go_sem] max2_int min2_int max_two min_two max_three min_three max_four min_four   -- for this text's walks alone
set_option linter.unusedVariables false
set_option linter.unusedSimpArgs false

/-- make([]T, n, m), as one step of a region: as make([]T, n), with a capacity of its own. -/
theorem R_makeC_step {P : Program} {ops : Array Oper} {o : Oper} {a : Act} {Q : Exit → Act → World → Prop} {Kc : Act → World → Prop} {α : Type} (d : Kd α) {w0 W : World} (base e : Nat) (hw : Region.wanted o (yielded ops a.tmps) = true) {N : Tmp} (hd : o.dst = some N) (t : TypeId) (x y : Operand) (ho : o.op = .makeSlice t x y) (n m : Int) (hx : a.eval x = .int .i64 n) (hy : a.eval y = .int .i64 m)
  (ht : P.underlying t = some (.slice e)) (z : Value) (bytes : Nat) (hinfo : (P.info? e).map (fun i => (i.zero, i.size, i.bytes)) = some (some z, d.sz, bytes)) (hz : z.cells.size = d.sz) (hs0 : 0 < d.sz) (hb0 : 0 < bytes)
  (z0 : α) {ok okp : Nat → Prop} (hzero : d.M W base okp z0 z.cells.toList) (hok : ∀ k, okp k → ok k) (hfresh : ok W.heap.size) (h0 : 0 ≤ n ∧ n ≤ m) (hl : m.toNat * bytes ≤ 281474976710656) (HB : Below base w0 W) (hbase : base ≤ W.heap.size)
  (h : ∀ v1 w1, d.R e w1 base ok v1 (List.replicate n.toNat z0) → Below base w0 w1 → W.grownBy w1 none → (∃ b, v1.ownBlock = some b ∧ W.heap.size ≤ b) → Kc (a.put o.dst v1) w1) : if Region.wanted o (yielded ops a.tmps) = true then Oper.wp P o a W Kc Q else Kc (a.put o.dst undef) W := by
 obtain ⟨n, rfl⟩ := Int.eq_ofNat_of_zero_le h0.1
 obtain ⟨m, rfl⟩ := Int.eq_ofNat_of_zero_le (Int.le_trans h0.1 h0.2)
 simp only [Int.toNat_natCast] at hl h
 obtain ⟨i0, hi, hzz⟩ := Option.map_eq_some_iff.1 hinfo
 simp only [Prod.mk.injEq] at hzz
 obtain ⟨hz0, hz1, hz2⟩ := hzz
 have hm : m ≤ 281474976710656 := Nat.le_trans (Nat.le_mul_of_pos_right _ hb0) hl
 have hr := run_make (P := P) W t e i0 z ht hi hz0 .i64 .i64 (n : Int) (m : Int) (by omega) (by omega)
  (by
   have h3 : ((i0.bytes * m : Nat) : Int) ≤ 281474976710656 := by rw [hz2, Nat.mul_comm]; omega
   rwa [Int.natCast_mul] at h3) (by omega)
 simp only [Int.toNat_natCast] at hr
 rw [hz1] at hr
 have hrep := Kd.reps_made hz hs0 hzero m
 have hR : d.R e (W.alloc (.cells (madeCells z.cells (m * d.sz)) e)) base ok (.slice (some ⟨W.heap.size, 0, none⟩) m m) (List.replicate m z0) := by
  refine ⟨fun k hk => ?_, (madeCells z.cells (m * d.sz)).toList, ?_, ?_⟩
  ·have : W.heap.size = k := by simpa [Value.ownBlock] using hk
   subst this
   exact hfresh
  ·have h2 := World.ownsRow_lit (base := base) (e := e) (size := d.sz) W (madeCells z.cells (m * d.sz)) m hbase (by unfold maxLen; omega) (by simpa using hrep.1)
   simpa using h2
  ·refine hrep.imp_ (fun p c hp => d.M_mono (fun k hk => ⟨hok k hk.1, fun he => ?_⟩) (Kd.M_below (d.M_bound hp) (below_alloc (Below.refl _ _) _)))
   have h3 : k = W.heap.size := by simpa [Value.ownBlock] using he
   have := hk.2.2.1
   omega
 have hT := Kd.R_take hR (m := n) (by rw [List.length_replicate]; omega)
 rw [List.take_replicate, Nat.min_eq_left (by omega)] at hT
 refine event_step hw (v := .slice (some ⟨W.heap.size, 0, none⟩) n m) (w1 := W.alloc (.cells (madeCells z.cells (m * d.sz)) e)) ?_ (h _ _ hT (HB.alloc hbase _) (World.grownBy_alloc W _ none) ⟨W.heap.size, by simp [Value.ownBlock], Nat.le_refl _⟩)
 simp [execOp, ho, hx, hy, hr]
/-! ### purflinglaw16_HeightsMore: function 5 -/
mutual
def purflinglaw16_HeightsMore.j0 : Nat → List Int → List Int → Int → Int → Bool → Bool → Option (Bool)
 | 0, _, _, _, _, _, _ => none
 | k + 1, x0, x1, x2, x3, x9, x43 => if x43 = true then (some x9) else (purflinglaw16_HeightsMore.l0 k x0 x1 x2 x3 x9 ([] : List (S35)) 0)
def purflinglaw16_HeightsMore.l0 : Nat → List Int → List Int → Int → Int → Bool → List (S35) → Int → Option (Bool)
 | 0, _, _, _, _, _, _, _ => none
 | k + 1, x0, x1, x2, x3, x9, x10, x11 => if x11 < (x1.length : Int) then (if (x0.length : Int) = 0 then (none) else ((some (([(⟨0, Int.tmod x11 (x0.length : Int), 0, 1, 1⟩ : S35)] : List (S35)) : List (S35))).bind fun y359 => (if x10.length + y359.length < 3518437208883 then (purflinglaw16_HeightsMore.l0 k x0 x1 x2 x3 x9 (x10 ++ y359) (wrap64 (x11 + 1))) else (none)))) else ((heights_Least.f x0 x10 x1 0).bind fun bt365 => ((some (([(⟨0, x2, 0, 1, 1⟩ : S35)] : List (S35)) : List (S35))).bind fun y369 => (if x10.length + y369.length < 3518437208883 then (if 0 ≤ 35184372088832 then ((some (List.replicate 0 0 : List Int)).bind fun y375 => (if y375.length + x1.length < 17592186044416 then ((some (y375 ++ x1 : List Int)).bind fun y378 => ((some (([x3] : List Int) : List Int)).bind fun y381 => (if y378.length + y381.length < 17592186044416 then ((heights_Least.f x0 (x10 ++ y369) (y378 ++ y381) 0).bind fun bt387 => (purflinglaw16_HeightsMore.j2 k x2 x3 x9 bt365.1 bt365.2 bt387.1 bt387.2)) else (none)))) else (none))) else (none)) else (none))))
def purflinglaw16_HeightsMore.j2 : Nat → Int → Int → Bool → List Int → Int → List Int → Int → Option (Bool)
 | 0, _, _, _, _, _, _, _ => none
 | k + 1, x2, x3, x9, x12, x13, x14, x15 => if x13 = 0 then (if x15 = 0 then (purflinglaw16_HeightsMore.j3 k x2 x3 x9 x12 x14 ((x12.length : Int) != (x14.length : Int))) else (purflinglaw16_HeightsMore.j3 k x2 x3 x9 x12 x14 true)) else (if x9 = true then (some (x15 == x13)) else (some false))
def purflinglaw16_HeightsMore.j3 : Nat → Int → Int → Bool → List Int → List Int → Bool → Option (Bool)
 | 0, _, _, _, _, _, _ => none
 | k + 1, x2, x3, x9, x12, x14, x98 => if x98 = true then (some false) else (purflinglaw16_HeightsMore.l1 k x2 x3 x9 x12 x14 0)
def purflinglaw16_HeightsMore.l1 : Nat → Int → Int → Bool → List Int → List Int → Int → Option (Bool)
 | 0, _, _, _, _, _, _ => none
 | k + 1, x2, x3, x9, x12, x14, x16 => if x16 < (x12.length : Int) then (if x16 = x2 then (if 0 ≤ x16 then (if x16 < (x14.length : Int) then (if (rd x14 x16) = (mx (rd x12 x16) x3) then (purflinglaw16_HeightsMore.l1 k x2 x3 x9 x12 x14 (wrap64 (x16 + 1))) else (some false)) else (none)) else (none)) else (if 0 ≤ x16 then (if x16 < (x14.length : Int) then (if (rd x12 x16) = (rd x14 x16) then (purflinglaw16_HeightsMore.l1 k x2 x3 x9 x12 x14 (wrap64 (x16 + 1))) else (some false)) else (none)) else (none))) else (some x9)
end
def purflinglaw16_HeightsMore.f (k : Nat) (l0 : List Int) (l1 : List Int) (a2 : Int) (a3 : Int) : Option (Bool) := (purflinglaw16_shown.f k).bind fun t356 => (if 0 ≤ (mn (l0.length : Int) 60) then (if (mn (l0.length : Int) 60) ≤ (l0.length : Int) then (if 0 ≤ (mn (l1.length : Int) 100) then (if (mn (l1.length : Int) 100) ≤ (l1.length : Int) then (if a2 < 0 then (purflinglaw16_HeightsMore.j0 k (l0.take ((mn (l0.length : Int) 60) : Int).toNat) (l1.take ((mn (l1.length : Int) 100) : Int).toNat) a2 a3 t356 true) else (if a2 ≥ ((l0.take ((mn (l0.length : Int) 60) : Int).toNat).length : Int) then (purflinglaw16_HeightsMore.j0 k (l0.take ((mn (l0.length : Int) 60) : Int).toNat) (l1.take ((mn (l1.length : Int) 100) : Int).toNat) a2 a3 t356 true) else (if a3 < 0 then (purflinglaw16_HeightsMore.j0 k (l0.take ((mn (l0.length : Int) 60) : Int).toNat) (l1.take ((mn (l1.length : Int) 100) : Int).toNat) a2 a3 t356 true) else (purflinglaw16_HeightsMore.j0 k (l0.take ((mn (l0.length : Int) 60) : Int).toNat) (l1.take ((mn (l1.length : Int) 100) : Int).toNat) a2 a3 t356 (decide (a3 > 1125899906842623)))))) else (none)) else (none)) else (none)) else (none))
theorem purflinglaw16_HeightsMore.mono_l : ∀ k, (∀ y0 y1 y2 y3 y4 y5, LeO (purflinglaw16_HeightsMore.j0 k y0 y1 y2 y3 y4 y5) (purflinglaw16_HeightsMore.j0 (k + 1) y0 y1 y2 y3 y4 y5)) ∧ (∀ y0 y1 y2 y3 y4 y5 y6, LeO (purflinglaw16_HeightsMore.l0 k y0 y1 y2 y3 y4 y5 y6) (purflinglaw16_HeightsMore.l0 (k + 1) y0 y1 y2 y3 y4 y5 y6)) ∧ (∀ y0 y1 y2 y3 y4 y5 y6, LeO (purflinglaw16_HeightsMore.j2 k y0 y1 y2 y3 y4 y5 y6) (purflinglaw16_HeightsMore.j2 (k + 1) y0 y1 y2 y3 y4 y5 y6)) ∧ (∀ y0 y1 y2 y3 y4 y5, LeO (purflinglaw16_HeightsMore.j3 k y0 y1 y2 y3 y4 y5) (purflinglaw16_HeightsMore.j3 (k + 1) y0 y1 y2 y3 y4 y5)) ∧ (∀ y0 y1 y2 y3 y4 y5, LeO (purflinglaw16_HeightsMore.l1 k y0 y1 y2 y3 y4 y5) (purflinglaw16_HeightsMore.l1 (k + 1) y0 y1 y2 y3 y4 y5))
 | 0 => ⟨fun _ _ _ _ _ _ r h => by simp [purflinglaw16_HeightsMore.j0] at h, fun _ _ _ _ _ _ _ r h => by simp [purflinglaw16_HeightsMore.l0] at h, fun _ _ _ _ _ _ _ r h => by simp [purflinglaw16_HeightsMore.j2] at h, fun _ _ _ _ _ _ r h => by simp [purflinglaw16_HeightsMore.j3] at h, fun _ _ _ _ _ _ r h => by simp [purflinglaw16_HeightsMore.l1] at h⟩
 | k + 1 => by
  obtain ⟨ih0, ih1, ih2, ih3, ih4⟩ := purflinglaw16_HeightsMore.mono_l k
  refine ⟨?_, ?_, ?_, ?_, ?_⟩
  ·intro y0 y1 y2 y3 y4 y5
   unfold purflinglaw16_HeightsMore.j0
   repeat' first
   | (with_reducible exact ih0 _ _ _ _ _ _)
   | (with_reducible exact ih1 _ _ _ _ _ _ _)
   | (with_reducible exact ih2 _ _ _ _ _ _ _)
   | (with_reducible exact ih3 _ _ _ _ _ _)
   | (with_reducible exact ih4 _ _ _ _ _ _)
   | (with_reducible exact purflinglaw16_shown.mono _)
   | (with_reducible exact LeO.refl _)
   | (with_reducible exact LeO.none _)
   | (with_reducible refine LeO.ite ?_ ?_)
   | (with_reducible refine LeO.bind ?_ (fun _ => ?_))
   | exact ih0 _ _ _ _ _ _
   | exact ih1 _ _ _ _ _ _ _
   | exact ih2 _ _ _ _ _ _ _
   | exact ih3 _ _ _ _ _ _
   | exact ih4 _ _ _ _ _ _
   | exact purflinglaw16_shown.mono _
   | exact LeO.none _
   | refine LeO.ite ?_ ?_
   | refine LeO.bind ?_ (fun _ => ?_)
  ·intro y0 y1 y2 y3 y4 y5 y6
   unfold purflinglaw16_HeightsMore.l0
   repeat' first
   | (with_reducible exact ih0 _ _ _ _ _ _)
   | (with_reducible exact ih1 _ _ _ _ _ _ _)
   | (with_reducible exact ih2 _ _ _ _ _ _ _)
   | (with_reducible exact ih3 _ _ _ _ _ _)
   | (with_reducible exact ih4 _ _ _ _ _ _)
   | (with_reducible exact purflinglaw16_shown.mono _)
   | (with_reducible exact LeO.refl _)
   | (with_reducible exact LeO.none _)
   | (with_reducible refine LeO.ite ?_ ?_)
   | (with_reducible refine LeO.bind ?_ (fun _ => ?_))
   | exact ih0 _ _ _ _ _ _
   | exact ih1 _ _ _ _ _ _ _
   | exact ih2 _ _ _ _ _ _ _
   | exact ih3 _ _ _ _ _ _
   | exact ih4 _ _ _ _ _ _
   | exact purflinglaw16_shown.mono _
   | exact LeO.none _
   | refine LeO.ite ?_ ?_
   | refine LeO.bind ?_ (fun _ => ?_)
  ·intro y0 y1 y2 y3 y4 y5 y6
   unfold purflinglaw16_HeightsMore.j2
   repeat' first
   | (with_reducible exact ih0 _ _ _ _ _ _)
   | (with_reducible exact ih1 _ _ _ _ _ _ _)
   | (with_reducible exact ih2 _ _ _ _ _ _ _)
   | (with_reducible exact ih3 _ _ _ _ _ _)
   | (with_reducible exact ih4 _ _ _ _ _ _)
   | (with_reducible exact purflinglaw16_shown.mono _)
   | (with_reducible exact LeO.refl _)
   | (with_reducible exact LeO.none _)
   | (with_reducible refine LeO.ite ?_ ?_)
   | (with_reducible refine LeO.bind ?_ (fun _ => ?_))
   | exact ih0 _ _ _ _ _ _
   | exact ih1 _ _ _ _ _ _ _
   | exact ih2 _ _ _ _ _ _ _
   | exact ih3 _ _ _ _ _ _
   | exact ih4 _ _ _ _ _ _
   | exact purflinglaw16_shown.mono _
   | exact LeO.none _
   | refine LeO.ite ?_ ?_
   | refine LeO.bind ?_ (fun _ => ?_)
  ·intro y0 y1 y2 y3 y4 y5
   unfold purflinglaw16_HeightsMore.j3
   repeat' first
   | (with_reducible exact ih0 _ _ _ _ _ _)
   | (with_reducible exact ih1 _ _ _ _ _ _ _)
   | (with_reducible exact ih2 _ _ _ _ _ _ _)
   | (with_reducible exact ih3 _ _ _ _ _ _)
   | (with_reducible exact ih4 _ _ _ _ _ _)
   | (with_reducible exact purflinglaw16_shown.mono _)
   | (with_reducible exact LeO.refl _)
   | (with_reducible exact LeO.none _)
   | (with_reducible refine LeO.ite ?_ ?_)
   | (with_reducible refine LeO.bind ?_ (fun _ => ?_))
   | exact ih0 _ _ _ _ _ _
   | exact ih1 _ _ _ _ _ _ _
   | exact ih2 _ _ _ _ _ _ _
   | exact ih3 _ _ _ _ _ _
   | exact ih4 _ _ _ _ _ _
   | exact purflinglaw16_shown.mono _
   | exact LeO.none _
   | refine LeO.ite ?_ ?_
   | refine LeO.bind ?_ (fun _ => ?_)
  ·intro y0 y1 y2 y3 y4 y5
   unfold purflinglaw16_HeightsMore.l1
   repeat' first
   | (with_reducible exact ih0 _ _ _ _ _ _)
   | (with_reducible exact ih1 _ _ _ _ _ _ _)
   | (with_reducible exact ih2 _ _ _ _ _ _ _)
   | (with_reducible exact ih3 _ _ _ _ _ _)
   | (with_reducible exact ih4 _ _ _ _ _ _)
   | (with_reducible exact purflinglaw16_shown.mono _)
   | (with_reducible exact LeO.refl _)
   | (with_reducible exact LeO.none _)
   | (with_reducible refine LeO.ite ?_ ?_)
   | (with_reducible refine LeO.bind ?_ (fun _ => ?_))
   | exact ih0 _ _ _ _ _ _
   | exact ih1 _ _ _ _ _ _ _
   | exact ih2 _ _ _ _ _ _ _
   | exact ih3 _ _ _ _ _ _
   | exact ih4 _ _ _ _ _ _
   | exact purflinglaw16_shown.mono _
   | exact LeO.none _
   | refine LeO.ite ?_ ?_
   | refine LeO.bind ?_ (fun _ => ?_)
theorem purflinglaw16_HeightsMore.mono : ∀ a0 a1 a2 a3 k, LeO (purflinglaw16_HeightsMore.f k a0 a1 a2 a3) (purflinglaw16_HeightsMore.f (k + 1) a0 a1 a2 a3) := by
 intro a0 a1 a2 a3 k
 obtain ⟨ih0, ih1, ih2, ih3, ih4⟩ := purflinglaw16_HeightsMore.mono_l k
 unfold purflinglaw16_HeightsMore.f
 repeat' first
   | (with_reducible exact ih0 _ _ _ _ _ _)
   | (with_reducible exact ih1 _ _ _ _ _ _ _)
   | (with_reducible exact ih2 _ _ _ _ _ _ _)
   | (with_reducible exact ih3 _ _ _ _ _ _)
   | (with_reducible exact ih4 _ _ _ _ _ _)
   | (with_reducible exact purflinglaw16_shown.mono _)
   | (with_reducible exact LeO.refl _)
   | (with_reducible exact LeO.none _)
   | (with_reducible refine LeO.ite ?_ ?_)
   | (with_reducible refine LeO.bind ?_ (fun _ => ?_))
   | exact ih0 _ _ _ _ _ _
   | exact ih1 _ _ _ _ _ _ _
   | exact ih2 _ _ _ _ _ _ _
   | exact ih3 _ _ _ _ _ _
   | exact ih4 _ _ _ _ _ _
   | exact purflinglaw16_shown.mono _
   | exact LeO.none _
   | refine LeO.ite ?_ ?_
   | refine LeO.bind ?_ (fun _ => ?_)
def purflinglaw16_HeightsMore.T12 : Bool × List (List Nat × List Nat) := (true, [([], []), ([], []), ([], []), ([2], [2]), ([3], [3]), ([1, 4], [1, 4]), ([], []), ([], []), ([6, 7, 5], [6, 7]), ([], []), ([9], [9]), ([8, 10, 8], [8, 10]), ([0, 5, 11, 11], [0, 5, 11]), ([12], [12]), ([13], [13]), ([13], [13]), ([14, 12, 0, 1, 2, 3, 4, 5, 6, 7, 8, 9, 10, 11, 12, 13, 14], [14]), ([15, 16, 0, 1, 2, 3, 4, 5, 6, 7, 8, 9, 10, 11, 12, 13, 14, 15, 16], [15])])
def purflinglaw16_HeightsMore.B12 : List Nat := [0, 0, 0, 4, 12, 30, 0, 0, 254, 0, 512, 2046, 4095, 8191, 16383, 16383, 32767, 131071]
theorem purflinglaw16_HeightsMore.tab12 : rtab .any (opsOf Try.f5 12) = purflinglaw16_HeightsMore.T12 := by kernel_rfl
theorem purflinglaw16_HeightsMore.bits12 : waitsOk purflinglaw16_HeightsMore.T12.2 purflinglaw16_HeightsMore.B12 = true := by kernel_rfl
def purflinglaw16_HeightsMore.T20 : Bool × List (List Nat × List Nat) := (true, [([], []), ([], []), ([0, 1], [0, 1]), ([2], [2]), ([3], [3]), ([3], [3]), ([4, 5, 3], [3, 4, 5]), ([6, 3], [3, 6]), ([3], [3]), ([3], [3]), ([8, 9, 3], [3, 8, 9]), ([10, 3], [3, 10]), ([7, 11, 3], [3, 7, 11]), ([3, 12], [3, 12]), ([13, 3], [13]), ([14], [14]), ([14], [14]), ([15, 16, 14], [14, 15, 16]), ([17, 14, 14], [14, 17]), ([18], [18]), ([18], [18]), ([19, 20, 18], [18, 19, 20]), ([21, 18], [18, 21]), ([18], [18]), ([18], [18]), ([23, 24, 18], [18, 23, 24]), ([25, 18], [18, 25]), ([18], [18]), ([26, 27, 18], [18, 26, 27]), ([22, 28, 18], [18, 22, 28]), ([18, 29, 14], [14, 18, 29]), ([14, 30], [14, 30])])
def purflinglaw16_HeightsMore.B20 : List Nat := [0, 0, 3, 7, 15, 15, 63, 127, 15, 15, 783, 1807, 4095, 8191, 16383, 32767, 32767, 131071, 262143, 524287, 524287, 2097151, 4194303, 524287, 524287, 25690111, 59244543, 524287, 260571135, 536870911, 1073741823, 2147483647]
theorem purflinglaw16_HeightsMore.tab20 : rtab .any (opsOf Try.f5 20) = purflinglaw16_HeightsMore.T20 := by kernel_rfl
theorem purflinglaw16_HeightsMore.bits20 : waitsOk purflinglaw16_HeightsMore.T20.2 purflinglaw16_HeightsMore.B20 = true := by kernel_rfl
end Go.Proofs.Ytgghbmhmpkeccaa.PA
