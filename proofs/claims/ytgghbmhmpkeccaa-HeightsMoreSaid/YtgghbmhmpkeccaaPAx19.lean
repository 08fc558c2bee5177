-- MADE by wip/tools/xprint.py of this repo: the kit's print.py, turned by this session, and texts by hand
import Derived.Test.YtgghbmhmpkeccaaPAx0
import Derived.Test.YtgghbmhmpkeccaaPAx4
import Derived.Test.YtgghbmhmpkeccaaPAx6
import Derived.Test.YtgghbmhmpkeccaaPAx7
import Derived.Test.YtgghbmhmpkeccaaPAx13
import Derived.Test.YtgghbmhmpkeccaaPAx14
import Derived.Test.YtgghbmhmpkeccaaPAx18
import Derived.Test.YtgghbmhmpkeccaaTail
namespace Go.Proofs.Ytgghbmhmpkeccaa.PA
open Go.RowKit Go.Proofs.YtgghbmhmpkeccaaW.PrintWords Go.Proofs.YtgghbmhmpkeccaaW.PrintLast Go.Proofs.YtgghbmhmpkeccaaW.PrintMore
attribute [local go_sem] max2_int min2_int max_two min_two max_three min_three max_four min_four   -- for this text's walks alone
set_option linter.unusedVariables false
set_option linter.unusedSimpArgs false

-- BY HAND: hstretch.tpl
-- MAKING heights_Stretch
section
open Go.RowKit Go.Shelf Go.Proofs.YtgghbmhmpkeccaaW.PrintWords Go.Proofs.YtgghbmhmpkeccaaW.PrintLast Go.Proofs.YtgghbmhmpkeccaaW.PrintMore
/-- Rows that may be stretched. -/
def stretchOk (l0 l1 : List Int) (a2 : Int) : Bool := decide (0 < l0.length) && decide (l0.length = l1.length) && (decide (l1.length ≤ 10000) && !(l1.any (offBounds (-1) 1073741824))) && !(l0.any (offBounds 0 1125899906842623)) && !(offBounds 0 576460752303423488 a2)
def freeP (p : Int → Bool) (l1 : List Int) (n : Nat) : List Nat := (List.range n).filter (fun j => p (l1[j]?.getD 0))
def isFree (n : Int) : Bool := n == -1
def yesB (_ : Int) : Bool := true
/-- The rows that are stretched. -/
def stretchP (l1 : List Int) : List Nat := if freeP isFree l1 l1.length = [] then freeP yesB l1 l1.length else freeP isFree l1 l1.length
def ofRows (l0 : List Int) (ps : List Nat) : List Int := ps.map (fun j => l0[j]?.getD 0)
def addOne (o : List Int) (q : Nat × Int) : List Int := o.set q.1 (wrap64 (o[q.1]?.getD 0 + q.2))
def addAll (l0 : List Int) (qs : List (Nat × Int)) : List Int := qs.foldl addOne l0
def heights_Stretch.f (l0 l1 : List Int) (a2 : Int) : Option (List Int × Int) :=
 if stretchOk l0 l1 a2 = true then
  (fixed_Sub.f a2 (addOut l0)).bind fun s => (fixed_Share.f (mx s 0) (ofRows l0 (stretchP l1))).bind fun r =>
   if (stretchP l1).length ≤ r.1.length then some (addAll l0 ((stretchP l1).zip r.1), 0) else none
 else some ([], 160)
theorem C_litH (X : World) (u : Int) : Kd.C (Kd.int .i64) (X.alloc (.cells #[.int .i64 u] 2)) (some ⟨X.heap.size, 0, none⟩) 1 [u] :=
 (Kd.R_reads' (Kd.R_of_own (h1 := fun _ => rfl) (enc := Value.int .i64) (ok := fun _ => True) (own_lit X X.heap.size 2 .i64 [u] (Nat.le_refl _) (by simp)) (fun _ _ => trivial))).2.2
def StrPost (w : World) (r1 : List Int) (r2 : Int) (e : Ending) (w' : World) : Prop := ∃ v0_ : Value, e = .returned (.tuple #[v0_, .int .i64 r2]) ∧ Kd.R (Kd.int .i64) 2 w' w.heap.size (fun _ => True) v0_ r1 ∧ Below w.heap.size w w'
set_option maxRecDepth 1000000 in
set_option maxHeartbeats 8000000 in
theorem stretch_bad (A0 : Option Addr) (c0 : Nat) (l0 : List Int) (A1 : Option Addr) (c1 : Nat) (l1 : List Int) (a2 : Int) (w : World) (hr0 : Kd.C (Kd.int .i64) w A0 l0.length l0) (hc0 : l0.length ≤ c0) (hr1 : Kd.C (Kd.int .i64) w A1 l1.length l1) (hc1 : l1.length ≤ c1) (h : stretchOk l0 l1 a2 = false) : Calls Try.prog 13 #[.slice A0 l0.length c0, .slice A1 l1.length c1, .int .i64 a2] w (StrPost w [] 160) := by
 have hmax : l0.length ≤ 9223372036854775807 := Kd.C_max hr0
 have hmax1 : l1.length ≤ 9223372036854775807 := Kd.C_max hr1
 have hwants := heights_areWants.calls A1 c1 l1 _ w hr1 hc1 (show heights_areWants.f l1 = some (decide (l1.length ≤ 10000) && !(l1.any (offBounds (-1) 1073741824))) by
  unfold heights_areWants.f heights_within.f
  by_cases hl : l1.length ≤ 10000
  ·rw [if_pos (by omega), decide_eq_true hl, Bool.true_and]; rfl
  ·rw [if_neg (by omega), decide_eq_false hl, Bool.false_and])
 have hrows : ∀ W2, Below w.heap.size w W2 → Calls Try.prog 21 #[.int .i64 0, .int .i64 1125899906842623, .slice A0 l0.length c0] W2 fun e w' => e = .returned (.bool (!(l0.any (offBounds 0 1125899906842623)))) ∧ Below W2.heap.size W2 w' := fun W2 h2 =>
  heights_within.calls 0 1125899906842623 A0 c0 l0 _ W2 (Kd.C_below hr0 h2) hc0 rfl
 have htot : ∀ X : World, Calls Try.prog 21 #[.int .i64 0, .int .i64 576460752303423488, .slice (some ⟨X.heap.size, 0, none⟩) 1 1] (X.alloc (.cells #[.int .i64 a2] 2)) fun e w' => e = .returned (.bool (!(offBounds 0 576460752303423488 a2))) ∧ Below (X.alloc (.cells #[.int .i64 a2] 2)).heap.size (X.alloc (.cells #[.int .i64 a2] 2)) w' := fun X =>
  heights_within.calls 0 576460752303423488 _ 1 [a2] _ _ (C_litH X a2) (Nat.le_refl _) (by simp [heights_within.f])
 have HWa := Lib.hid hwants
 have HWr := Lib.hid hrows
 have HWt := Lib.hid htot
 clear hwants hrows htot
 clear hr0 hr1
 unfold stretchOk at h
 by_cases k0 : 0 < l0.length
 case neg =>
  have hb0 : ((l0.length : Int) == 0) = true := beq_iff_eq.mpr (by omega)
  have hz0 : l0.length = 0 := by omega
  go_enter Try.func13, Try.ntmps13
  go_wp2_with fail
  refine wp_scope_straight ?_
  go_wp2_with fail
  (try simp only [Exit.noGoto])
  go_ret2
  exact ⟨_, rfl, Kd.R_nil _ _ _ _ _, Below.refl _ _⟩
 have hb0 : ((l0.length : Int) == 0) = false := beq_eq_false_iff_ne.mpr (by omega)
 have hn0 : ¬ l0.length = 0 := by omega
 rw [decide_eq_true k0, Bool.true_and] at h
 by_cases k1 : l0.length = l1.length
 case neg =>
  have hb1 : ((l0.length : Int) != (l1.length : Int)) = true := bne_iff_ne.mpr (by omega)
  go_enter Try.func13, Try.ntmps13
  go_wp2_with fail
  refine wp_scope_straight ?_
  go_wp2_with fail
  (try simp only [Exit.noGoto])
  go_ret2
  exact ⟨_, rfl, Kd.R_nil _ _ _ _ _, Below.refl _ _⟩
 have hb1 : ((l0.length : Int) != (l1.length : Int)) = false := by rw [bne_eq_false_iff_eq]; omega
 rw [decide_eq_true k1, Bool.true_and] at h
 have K1 := Lib.hid k1
 clear k1
 cases k2 : (decide (l1.length ≤ 10000) && !(l1.any (offBounds (-1) 1073741824))) with
 | false =>
  rw [k2] at HWa
  go_enter Try.func13, Try.ntmps13
  go_wp2_with fail
  refine wp_scope_straight ?_
  go_wp2_with (first | (go_at_call 20; refine HWa.out.mono ?_; rintro e w1 ⟨rfl, hb⟩; have HB1 := Aside0.mk hb; clear hb))
  (try simp only [Exit.noGoto])
  go_ret2
  exact ⟨_, rfl, Kd.R_nil _ _ _ _ _, HB1.out⟩
 | true =>
 rw [k2] at HWa
 rw [k2, Bool.true_and] at h
 cases k3 : (l0.any (offBounds 0 1125899906842623)) with
 | true =>
  rw [k3] at HWr
  go_enter Try.func13, Try.ntmps13
  go_wp2_with fail
  refine wp_scope_straight ?_
  go_wp2_with (first | (go_at_call 20; refine HWa.out.mono ?_; rintro e w1 ⟨rfl, hb⟩; have HB1 := Aside0.mk hb; clear hb) | (go_at_call 21; refine (HWr.out _ HB1.out).mono ?_; rintro e w2 ⟨rfl, hb⟩; have HB2 := Aside0.mk (below_step HB1.out hb); clear hb))
  (try simp only [Exit.noGoto])
  go_ret2
  exact ⟨_, rfl, Kd.R_nil _ _ _ _ _, HB2.out⟩
 | false =>
 rw [k3] at HWr
 rw [k3, Bool.not_false, Bool.true_and] at h
 have k4 : offBounds 0 576460752303423488 a2 = true := by simpa using h
 rw [k4] at HWt
 clear k2 k3 k4 h
 go_enter Try.func13, Try.ntmps13
 go_wp2_with fail
 refine wp_scope_straight ?_
 go_wp2_with (first | (go_at_call 20; refine HWa.out.mono ?_; rintro e w1 ⟨rfl, hb⟩; have HB1 := Aside0.mk hb; clear hb) | (go_at_call 21; refine (HWr.out _ HB1.out).mono ?_; rintro e w2 ⟨rfl, hb⟩; have HB2 := Aside0.mk (below_step HB1.out hb); clear hb) | (go_at_call 21; refine (HWt.out _).mono ?_; rintro e w3 ⟨rfl, hb⟩; have HB3 := Aside0.mk (below_step (HB2.out.alloc HB2.out.size _) hb); clear hb))
 (try simp only [Exit.noGoto])
 go_ret2
 exact ⟨_, rfl, Kd.R_nil _ _ _ _ _, HB3.out⟩
/-- What the way to the label finds. -/
structure StrI (w : World) (ps : List Nat) (ws : List Int) (v9 v10 : Value) (W : World) : Prop where
 own9 : Kd.R (Kd.int .i64) 3 W w.heap.size (fun _ => True) v9 (ps.map (fun (j : Nat) => (j : Int)))
 own10 : Kd.R (Kd.int .i64) 2 W w.heap.size (fun _ => True) v10 ws
 below : Below w.heap.size w W
theorem StrI.step {w : World} {ps : List Nat} {ws : List Int} {v9 v10 : Value} {W W2 : World} (h : StrI w ps ws v9 v10 W) (hb : Below W.heap.size W W2) : StrI w ps ws v9 v10 W2 := ⟨Kd.R_below h.own9 hb, Kd.R_below h.own10 hb, below_step h.below hb⟩
theorem row_keep {e e2 : Nat} {w W w1 : World} {v u : Value} {xs ys : List Int} (hne : e ≠ e2) (h : Kd.R (Kd.int .i64) e W w.heap.size (fun _ => True) v xs) (h2 : Kd.R (Kd.int .i64) e2 W w.heap.size (fun _ => True) u ys) (hg : W.grownBy w1 u.ownBlock) : Kd.R (Kd.int .i64) e w1 w.heap.size (fun _ => True) v xs := by
 refine Kd.R_mono (Kd.R_step (Kd.R_tight2 rfl h) (fun k hk hlt => hg.block k hlt (fun he => ?_))) (fun _ _ => trivial)
 obtain ⟨c1, h3⟩ := Kd.R_typed h k hk.1.symm
 obtain ⟨c2, h4⟩ := Kd.R_typed h2 k he.symm
 rw [h3] at h4
 simp only [Option.some.injEq, Obj.cells.injEq] at h4
 exact hne h4.2.1
def StrJ (A0 : Option Addr) (c0 : Nat) (l0 : List Int) (A1 : Option Addr) (c1 : Nat) (l1 : List Int) (a2 : Int) (w : World) (a' : Act) (w' : World) : Prop :=
 ∃ (g : Nat) (v9 v10 u3 u4 u5 u11 u12 u13 u14 u15 u16 u17 u18 u19 u20 u21 u22 u23 u24 u25 u26 u27 u28 u29 u30 u31 u32 u33 u34 u35 u36 u37 u38 u39 u40 u41 u42 u43 u44 u45 u46 u47 u48 u49 u50 u51 u52 u53 u54 u55 u56 u57 u58 u59 u60 u61 u62 u63 u64 u65 u66 u67 u68 u69 u70 u71 u72 u73 u74 u75 u76 u77 u78 u79 u80 u81 u82 u83 u84 u85 u86 u87 u88 u89 u90 u91 u92 u93 u94 u95 u96 u97 u98 u99 : Value), a' = { tmps := #[.slice A0 l0.length c0, .slice A1 l1.length c1, .int .i64 a2, u3, u4, u5, .slice none 0 0, .int .i64 0, .func (.func g) #[] #[], v9, v10, u11, u12, u13, u14, u15, u16, u17, u18, u19, u20, u21, u22, u23, u24, u25, u26, u27, u28, u29, u30, u31, u32, u33, u34, u35, u36, u37, u38, u39, u40, u41, u42, u43, u44, u45, u46, u47, u48, u49, u50, u51, u52, u53, u54, u55, u56, u57, u58, u59, u60, u61, u62, u63, u64, u65, u66, u67, u68, u69, u70, u71, u72, u73, u74, u75, u76, u77, u78, u79, u80, u81, u82, u83, u84, u85, u86, u87, u88, u89, u90, u91, u92, u93, u94, u95, u96, u97, u98, u99], defers := [] } ∧ (g = 26 ∨ (g = 27 ∧ freeP isFree l1 l1.length = [])) ∧ StrI w [] [] v9 v10 w'
def strMu (a' : Act) : Nat := match a'.tmps.getD 8 undef with
 | .func (.func g) _ _ => if g = 26 then 1 else 0
 | _ => 0
theorem freeP_yes (p : Int → Bool) (l1 : List Int) (i : Nat) (h : p (l1[i]?.getD 0) = true) : freeP p l1 (i + 1) = freeP p l1 i ++ [i] := by
 unfold freeP
 rw [List.range_succ, List.filter_append]
 simp [h]
theorem freeP_no (p : Int → Bool) (l1 : List Int) (i : Nat) (h : p (l1[i]?.getD 0) = false) : freeP p l1 (i + 1) = freeP p l1 i := by
 unfold freeP
 rw [List.range_succ, List.filter_append]
 simp [h]
theorem freeP_length (p : Int → Bool) (l1 : List Int) (i : Nat) : (freeP p l1 i).length ≤ i := by
 unfold freeP
 exact Nat.le_trans (List.length_filter_le _ _) (by simp)
theorem freeP_lt (p : Int → Bool) (l1 : List Int) (n : Nat) : ∀ i ∈ freeP p l1 n, i < n := by
 intro i hi
 unfold freeP at hi
 simpa using (List.mem_filter.1 hi).1
theorem freeP_yesB (l1 : List Int) (n : Nat) (hn : 0 < n) : freeP yesB l1 n ≠ [] := by
 intro h
 have : (0 : Nat) ∈ freeP yesB l1 n := by unfold freeP yesB; simp; exact hn
 rw [h] at this
 cases this
theorem info_int : (Try.prog.info? 3).map (fun i => (i.zero, i.size, i.bytes)) = some (some (.int .i64 0), 1, 8) := by kernel_rfl
theorem is1_calls (x : Int) (W : World) : Calls Try.prog 26 #[.int .i64 x] W fun e w' => e = .returned (.bool (isFree x)) ∧ w' = W := by
 unfold isFree
 go_enter Try.func26, Try.ntmps26
 go_wp2
 go_ret
 exact ⟨rfl, rfl⟩
theorem is2_calls (x : Int) (W : World) : Calls Try.prog 27 #[.int .i64 x] W fun e w' => e = .returned (.bool (yesB x)) ∧ w' = W := by
 unfold yesB
 go_enter Try.func27, Try.ntmps27
 go_wp2
 go_ret
 exact ⟨rfl, rfl⟩
/-- The last loop: the rows so far, their places, what they get. -/
structure StrO (w : World) (G c15 c9 c13 : Nat) (A9 A13 : Option Addr) (l0 : List Int) (ps : List Nat) (r1 : List Int) (i : Nat) (W : World) : Prop where
 own : Kd.R (Kd.int .i64) 2 W w.heap.size (fun _ => True) (.slice (some ⟨G, 0, none⟩) l0.length c15) (addAll l0 ((ps.zip r1).take i))
 pl : Kd.R (Kd.int .i64) 3 W w.heap.size (fun k => k ≠ G) (.slice A9 ps.length c9) (ps.map (fun (j : Nat) => (j : Int)))
 mo : Kd.R (Kd.int .i64) 2 W w.heap.size (fun k => k ≠ G) (.slice A13 r1.length c13) r1
 below : Below w.heap.size w W
theorem addAll_length (l0 : List Int) : ∀ qs : List (Nat × Int), (addAll l0 qs).length = l0.length := by
 intro qs
 unfold addAll
 induction qs generalizing l0 with
 | nil => rfl
 | cons q qs ih =>
  rw [List.foldl_cons, ih]
  unfold addOne
  rw [List.length_set]
theorem addAll_take (l0 : List Int) (ps : List Nat) (r1 : List Int) (i : Nat) (h : i < ps.length) (h2 : i < r1.length) : addAll l0 ((ps.zip r1).take (i + 1)) = (addAll l0 ((ps.zip r1).take i)).set ps[i] (wrap64 ((addAll l0 ((ps.zip r1).take i))[ps[i]]?.getD 0 + r1[i])) := by
 have hz : i < (ps.zip r1).length := by rw [List.length_zip]; omega
 unfold addAll
 rw [List.take_succ_eq_append_getElem hz, List.foldl_append, List.getElem_zip]
 rfl
set_option maxRecDepth 1000000 in
set_option maxHeartbeats 16000000 in
theorem stretch_main (A0 : Option Addr) (c0 : Nat) (l0 : List Int) (A1 : Option Addr) (c1 : Nat) (l1 : List Int) (a2 : Int) (w : World) (hr0 : Kd.C (Kd.int .i64) w A0 l0.length l0) (hc0 : l0.length ≤ c0) (hr1 : Kd.C (Kd.int .i64) w A1 l1.length l1) (hc1 : l1.length ≤ c1) (h : stretchOk l0 l1 a2 = true) (s : Int) (hs : fixed_Sub.f a2 (addOut l0) = some s) (r : List Int × Int) (hsh : fixed_Share.f (mx s 0) (ofRows l0 (stretchP l1)) = some r) (hlen : (stretchP l1).length ≤ r.1.length) :
  Calls Try.prog 13 #[.slice A0 l0.length c0, .slice A1 l1.length c1, .int .i64 a2] w (StrPost w (addAll l0 ((stretchP l1).zip r.1)) 0) := by
 have hmax : l0.length ≤ 9223372036854775807 := Kd.C_max hr0
 have hmax1 : l1.length ≤ 9223372036854775807 := Kd.C_max hr1
 have hwants := heights_areWants.calls A1 c1 l1 _ w hr1 hc1 (show heights_areWants.f l1 = some (decide (l1.length ≤ 10000) && !(l1.any (offBounds (-1) 1073741824))) by
  unfold heights_areWants.f heights_within.f
  by_cases hl : l1.length ≤ 10000
  ·rw [if_pos (by omega), decide_eq_true hl, Bool.true_and]; rfl
  ·rw [if_neg (by omega), decide_eq_false hl, Bool.false_and])
 have hrows : ∀ W2, Below w.heap.size w W2 → Calls Try.prog 21 #[.int .i64 0, .int .i64 1125899906842623, .slice A0 l0.length c0] W2 fun e w' => e = .returned (.bool (!(l0.any (offBounds 0 1125899906842623)))) ∧ Below W2.heap.size W2 w' := fun W2 h2 =>
  heights_within.calls 0 1125899906842623 A0 c0 l0 _ W2 (Kd.C_below hr0 h2) hc0 rfl
 have htot : ∀ X : World, Calls Try.prog 21 #[.int .i64 0, .int .i64 576460752303423488, .slice (some ⟨X.heap.size, 0, none⟩) 1 1] (X.alloc (.cells #[.int .i64 a2] 2)) fun e w' => e = .returned (.bool (!(offBounds 0 576460752303423488 a2))) ∧ Below (X.alloc (.cells #[.int .i64 a2] 2)).heap.size (X.alloc (.cells #[.int .i64 a2] 2)) w' := fun X =>
  heights_within.calls 0 576460752303423488 _ 1 [a2] _ _ (C_litH X a2) (Nat.le_refl _) (by simp [heights_within.f])
 have HWa := Lib.hid hwants
 have HWr := Lib.hid hrows
 have HWt := Lib.hid htot
 clear hwants hrows htot
 have Hr0 := Lib.hid hr0
 have Hr1 := Lib.hid hr1
 clear hr0 hr1
 unfold stretchOk at h
 simp only [Bool.and_eq_true, Bool.not_eq_true', decide_eq_true_eq] at h
 obtain ⟨⟨⟨⟨k0, k1⟩, ⟨k2, k3⟩⟩, k4⟩, k5⟩ := h
 have K2 := Lib.hid k2
 have K1 := Lib.hid k1
 have hb0 : ((l0.length : Int) == 0) = false := beq_eq_false_iff_ne.mpr (by omega)
 have hn0 : ¬ l0.length = 0 := by omega
 have hb1 : ((l0.length : Int) != (l1.length : Int)) = false := by rw [bne_eq_false_iff_eq]; omega
 rw [show (decide (l1.length ≤ 10000) && !(l1.any (offBounds (-1) 1073741824))) = true by rw [decide_eq_true k2, k3]; rfl] at HWa
 rw [k4] at HWr
 rw [k5] at HWt
 clear k1 k2 k3 k4 k5
 go_enter Try.func13, Try.ntmps13
 go_wp2_with fail
 refine wp_scope_jumps2 0 (StrJ A0 c0 l0 A1 c1 l1 a2 w) (fun a' _ => strMu a') rfl ?pass ?first
 case first =>
  intro pass
  go_wp2_with (first | (go_at_call 20; refine HWa.out.mono ?_; rintro e w1 ⟨rfl, hb⟩; have HB1 := Aside0.mk hb; clear hb) | (go_at_call 21; refine (HWr.out _ HB1.out).mono ?_; rintro e w2 ⟨rfl, hb⟩; have HB2 := Aside0.mk (below_step HB1.out hb); clear hb) | (go_at_call 21; refine (HWt.out _).mono ?_; rintro e w3 ⟨rfl, hb⟩; have HB3 := Aside0.mk (below_step (HB2.out.alloc HB2.out.size _) hb); clear hb))
  go_step3
  rename_i hK
  refine hK _ _ (pass _ _ ?_)
  exact ⟨26, _, _, _, _, _, _, _, _, _, _, _, _, _, _, _, _, _, _, _, _, _, _, _, _, _, _, _, _, _, _, _, _, _, _, _, _, _, _, _, _, _, _, _, _, _, _, _, _, _, _, _, _, _, _, _, _, _, _, _, _, _, _, _, _, _, _, _, _, _, _, _, _, _, _, _, _, _, _, _, _, _, _, _, _, _, _, _, _, _, _, _, _, _, _, rfl, .inl rfl, Kd.R_nil _ _ _ _ _, Kd.R_nil _ _ _ _ _, HB3.out⟩
 case pass =>
  clear HWa HWr HWt hb0 hb1
  rintro a' w1 ⟨g, v9, v10, u3, u4, u5, u11, u12, u13, u14, u15, u16, u17, u18, u19, u20, u21, u22, u23, u24, u25, u26, u27, u28, u29, u30, u31, u32, u33, u34, u35, u36, u37, u38, u39, u40, u41, u42, u43, u44, u45, u46, u47, u48, u49, u50, u51, u52, u53, u54, u55, u56, u57, u58, u59, u60, u61, u62, u63, u64, u65, u66, u67, u68, u69, u70, u71, u72, u73, u74, u75, u76, u77, u78, u79, u80, u81, u82, u83, u84, u85, u86, u87, u88, u89, u90, u91, u92, u93, u94, u95, u96, u97, u98, u99, rfl, hg, hI⟩
  have K0 := Lib.hid k0
  clear k0 hn0
  have hgp : ∃ p : Int → Bool, (∀ x W, Calls Try.prog g #[.int .i64 x] W fun e w' => e = .returned (.bool (p x)) ∧ w' = W) ∧ (∀ args W, (callFunc g args).run Try.prog W = .ok (.enter g args) W) ∧ ((g = 26 ∧ p = isFree) ∨ (g = 27 ∧ p = yesB ∧ freeP isFree l1 l1.length = [])) := by
   rcases hg with rfl | ⟨rfl, hq⟩
   ·exact ⟨isFree, is1_calls, enters_of Try.func26 (by kernel_rfl) rfl, .inl ⟨rfl, rfl⟩⟩
   ·exact ⟨yesB, is2_calls, enters_of Try.func27 (by kernel_rfl) rfl, .inr ⟨rfl, rfl, hq⟩⟩
  obtain ⟨p, hp, eg, hgg⟩ := hgp
  have HI0 := Lib.hid hI
  have Hgg := Lib.hid hgg
  clear hg hI hgg
  go_wp2_with fail
  go_loopg [9, 10, 11, 12, 46] l1.length (fun kx s9 s10 _ _ s46 wr => ∃ i : Nat, s46 = .int .i64 i ∧ i ≤ l1.length ∧ l1.length - i ≤ kx ∧ Hid (StrI w (freeP p l1 i) (ofRows l0 (freeP p l1 i)) s9 s10 wr))
  case atStart => exact ⟨0, rfl, Nat.zero_le _, Nat.le_refl _, HI0⟩
  case round =>
   clear HI0
   obtain ⟨i, rfl, hi, hkx, HI⟩ := hrel
   by_cases hlt : i < l1.length
   ·have hltz : (i : Int) < (l1.length : Int) := by omega
    have hlt0 : i < l0.length := by have := K1.out; omega
    have hltz0 : (i : Int) < (l0.length : Int) := by omega
    obtain ⟨ad1, rfl, _, hc1'⟩ := cells_of_C Hr1.out (by omega)
    obtain ⟨ad0, rfl, _, hc0'⟩ := cells_of_C Hr0.out (by omega)
    have hx := (HI.out.below.cell (World.block_lt_of_cell? w _ (hc1' i hlt))).trans (hc1' i hlt)
    have hyw := Lib.hid (fun W' (hB : Below w.heap.size w W') => (hB.cell (World.block_lt_of_cell? w _ (hc0' i hlt0))).trans (hc0' i hlt0))
    have e1 : l1[i]?.getD 0 = l1[i] := by rw [List.getElem?_eq_getElem hlt]; rfl
    have e0 : l0[i]?.getD 0 = l0[i] := by rw [List.getElem?_eq_getElem hlt0]; rfl
    have hfy := freeP_yes p l1 i
    have hfn := freeP_no p l1 i
    rw [e1] at hfy hfn
    have hfl := freeP_length p l1 i
    have hcl : (ofRows l0 (freeP p l1 i)).length = (freeP p l1 i).length := by unfold ofRows; rw [List.length_map]
    clear hc1' hc0' e1
    generalize l1[i] = x at hx hfy hfn
    generalize l0[i] = y at hyw e0
    have hpx := hp x
    cases hq : p x with
    | true =>
     rw [hq] at hpx
     have hs1 := hfy hq
     have Hs1 := Lib.hid hs1
     have hs2 : ofRows l0 (freeP p l1 (i + 1)) = ofRows l0 (freeP p l1 i) ++ [y] := by rw [hs1]; unfold ofRows; rw [List.map_append]; simp [e0]
     have Hs2 := Lib.hid hs2
     have Hfl := Lib.hid hfl
     have Hcl := Lib.hid hcl
     have HK2 := Lib.hid K2.out
     clear hs1 hs2 hfy hfn e0 hfl hcl
     go_wp2_with (first | (go_at_fn g; refine (hpx _).mono ?_; rintro e w' ⟨rfl, rfl⟩) | (at_builtin; refine Kd.R_append (Kd.int .i64) (w0 := w) w.heap.size rfl (.tmp 54) (.tmp 56) 51 3 (.int .i64 0) 8 rfl Try.underlying51 info_int rfl (by decide) (by omega) _ ((freeP p l1 i).map (fun (j : Nat) => (j : Int))) (i : Int) _ (fun _ => True) (fun _ => False) rfl rfl rfl (fun _ hk => hk.elim) (fun _ _ => trivial) HI.out.own9 HI.out.below HI.out.below.size (by rw [List.length_map]; have := Hfl.out; have := HK2.out; omega) ?_; intro v1 w2 ho hb hg hat; have HI2 := Lib.hid (And.intro ho (And.intro (row_keep (by decide) HI.out.own10 HI.out.own9 hg) hb)); have hy := hyw.out w2 hb; clear ho hb hg hat) | (at_builtin; refine Kd.R_append (Kd.int .i64) (w0 := w) w.heap.size rfl (.tmp 58) (.tmp 63) 22 2 (.int .i64 0) 8 rfl Try.underlying22 info2 rfl (by decide) (by omega) _ (ofRows l0 (freeP p l1 i)) y _ (fun _ => True) (fun _ => False) rfl rfl rfl (fun _ hk => hk.elim) (fun _ _ => trivial) HI2.out.2.1 HI2.out.2.2 HI2.out.2.2.size (by rw [Hcl.out]; have := Hfl.out; have := HK2.out; omega) ?_; intro v2 w3 ho hb hg hat; have HI3 := Lib.hid (And.intro (row_keep (by decide) HI2.out.1 HI2.out.2.1 hg) (And.intro ho hb)); clear ho hb hg hat))
     go_roundg (l1.length - (i + 1))
     case measure => omega
     case rel => exact ⟨i + 1, by go_num, by omega, Nat.le_refl _, Lib.hid ⟨by rw [Hs1.out, List.map_append]; exact HI3.out.1, by rw [Hs2.out]; exact HI3.out.2.1, HI3.out.2.2⟩⟩
    | false =>
     rw [hq] at hpx
     have hs1 := hfn hq
     have Hs1 := Lib.hid hs1
     clear hs1 hfy hfn e0 hfl hcl
     go_wp2_with (first | (go_at_fn g; refine (hpx _).mono ?_; rintro e w' ⟨rfl, rfl⟩))
     go_roundg (l1.length - (i + 1))
     case measure => omega
     case rel => exact ⟨i + 1, by go_num, by omega, Nat.le_refl _, by rw [Hs1.out]; exact HI⟩
   ·obtain rfl : i = l1.length := by omega
    have hlm : ((freeP p l1 l1.length).map (fun (j : Nat) => (j : Int))).length = (freeP p l1 l1.length).length := List.length_map _
    obtain ⟨A9, c9, rfl, hc9, _⟩ := Kd.R_reads HI.out.own9
    obtain ⟨A10, c10, rfl, hc10, hC10⟩ := Kd.R_reads HI.out.own10
    by_cases hps : freeP p l1 l1.length = []
    ·obtain ⟨rfl, rfl⟩ : g = 26 ∧ p = isFree := by
      rcases Hgg.out with h | ⟨_, h, _⟩
      ·exact h
      ·rw [h] at hps
       exact absurd hps (freeP_yesB l1 l1.length (by have := K0.out; have := K1.out; omega))
     have HI' := HI.out
     rw [hps] at HI'
     have HI2 := Lib.hid HI'
     have HPs := Lib.hid hps
     have hz : ((freeP isFree l1 l1.length).map (fun (j : Nat) => (j : Int))).length = 0 := by rw [hps]; rfl
     have hzb : (((((freeP isFree l1 l1.length).map (fun (j : Nat) => (j : Int))).length : Nat) : Int) == 0) = true := by rw [hz]; rfl
     clear HI HI' hps hlm hc9 hc10 hC10
     go_wp2
     go_step3
     refine ⟨rfl, ⟨27, _, _, _, _, _, _, _, _, _, _, _, _, _, _, _, _, _, _, _, _, _, _, _, _, _, _, _, _, _, _, _, _, _, _, _, _, _, _, _, _, _, _, _, _, _, _, _, _, _, _, _, _, _, _, _, _, _, _, _, _, _, _, _, _, _, _, _, _, _, _, _, _, _, _, _, _, _, _, _, _, _, _, _, _, _, _, _, _, _, _, _, _, _, _, rfl, .inr ⟨rfl, HPs.out⟩, ?_⟩, ?_⟩
     ·simpa [HPs.out, ofRows] using HI2.out
     ·exact (show (0 : Nat) < 1 from Nat.zero_lt_one)
    ·have hP : stretchP l1 = freeP p l1 l1.length := by
      unfold stretchP
      rcases Hgg.out with ⟨_, h⟩ | ⟨_, h, h2⟩
      ·rw [h] at hps ⊢
       rw [if_neg hps]
      ·rw [h, if_pos h2]
     have HP := Lib.hid hP
     have hlt := freeP_lt p l1 l1.length
     have hpl := freeP_length p l1 l1.length
     rw [hP] at hsh hlen
     have HI' := HI.out
     clear HI hP Hgg
     generalize freeP p l1 l1.length = ps at hsh hlen HP hps hlt hpl HI' hlm hC10 hc10 hc9
     have Hsh := Lib.hid hsh
     have Hlt := Lib.hid hlt
     have Hlen := Lib.hid hlen
     have HS := Lib.hid hs
     have hpp : 0 < ps.length := List.length_pos_iff.2 hps
     have hpb : ((ps.length : Int) == 0) = false := beq_eq_false_iff_ne.mpr (by omega)
     have hpn : ¬ ps.length = 0 := by omega
     obtain ⟨r1, r2⟩ := r
     have h9 := HI'.own9
     have h10 := HI'.own10
     have hbw := HI'.below
     rw [hlm] at h9 hc9 ⊢
     have H9 := Lib.hid h9
     have H10 := Lib.hid h10
     have HBw := Lib.hid hbw
     have Hpl := Lib.hid hpl
     have HK2 := Lib.hid K2.out
     have HC10 := Lib.hid hC10
     clear hsh hlt hlen hs HI' h9 h10 hbw hps hpl hC10 hlm
     have hbm : (s < 0 ∧ mx s 0 = 0) ∨ (¬ s < 0 ∧ mx s 0 = s) := by
      unfold mx
      by_cases c : s < 0
      ·exact .inl ⟨c, if_pos c⟩
      ·exact .inr ⟨c, if_neg c⟩
     have hcut : ∀ (W : World) (a' : Nat), True := fun _ _ => trivial
     have hadd := fun W (hB : Below w.heap.size w W) => fixed_Add.calls A0 c0 l0 (addOut l0) W (Kd.C_below Hr0.out hB) hc0 rfl
     have hsub := fun W => fixed_Sub.calls a2 (addOut l0) s W HS.out
     have hclone := fun W (hB : Below w.heap.size w W) => cloned_int A0 c0 l0 W (Kd.C_below Hr0.out hB) hc0 (by have := HK2.out; have := K1.out; omega)
     have HAdd := Lib.hid hadd
     have HSub := Lib.hid hsub
     have HClone := Lib.hid hclone
     clear hadd hsub hclone hcut
     have hmm : ∃ m, mx s 0 = m ∧ ((s < 0 ∧ m = 0) ∨ (¬ s < 0 ∧ m = s)) := ⟨_, rfl, hbm⟩
     obtain ⟨m, hm, hbm⟩ := hmm
     rw [hm] at Hsh
     have hshare := fun W (hB : Below w.heap.size w W) (hC : Kd.C (Kd.int .i64) W A10 (ofRows l0 ps).length (ofRows l0 ps)) => fixed_Share.calls m A10 c10 (ofRows l0 ps) r1 r2 W hC hc10 Hsh.out
     have HShare := Lib.hid hshare
     clear hshare hm
     rcases hbm with ⟨hbb, rfl⟩ | ⟨hbb, rfl⟩
     all_goals
      go_wp2_with (first | (go_at_call 30; refine (HAdd.out _ HBw.out).mono ?_; rintro e w2 ⟨rfl, ⟨nd, rfl⟩⟩) | (go_at_call 29; refine (HSub.out _).mono ?_; rintro e w3 ⟨rfl, ⟨nd2, rfl⟩⟩) | (go_at_call 28; refine (HShare.out _ (pw_below_drewN HBw.out _) (Kd.C_below HC10.out (pw_below_drewN (Below.refl _ _) _))).mono ?_; rintro e w4 ⟨v4, rfl, hv4, hb4⟩; have hB4 := below_step (pw_below_drewN HBw.out _) hb4; have HB4 := Lib.hid hB4; have HV4 := Lib.hid (Kd.R_lower hv4 (pw_below_drewN HBw.out _).size); have H9b := Lib.hid (Kd.R_below H9.out (below_step (pw_below_drewN (Below.refl _ _) _) hb4)); obtain ⟨A13, c13, rfl, hc13, _⟩ := Kd.R_reads hv4; clear hv4 hb4 hB4) | (go_at_call 31; refine (HClone.out _ HB4.out).mono ?_; rintro e w5 ⟨v5, rfl, hv5, hb5⟩; have H5 := Lib.hid (And.intro hv5 hb5); obtain ⟨A15, c15, rfl, hc15, _⟩ := Kd.R_reads hv5; clear hv5 hb5))
      obtain ⟨hv5, hb5⟩ := H5.out
      obtain ⟨G, cap, he, hbG, hGl, _⟩ := Kd.R_form hv5 K0.out
      simp only [Value.slice.injEq] at he
      obtain ⟨rfl, he2, rfl⟩ := he
      have hO : StrO w G c15 c9 c13 A9 A13 l0 ps r1 0 w5 := ⟨Kd.R_mono (Kd.R_lower hv5 HB4.out.size) (fun _ _ => trivial),
       Kd.R_mono (Kd.R_below (Kd.R_bound H9b.out) hb5) (fun k hk => by have h3 := hk.2.2.1; show k ≠ G; omega),
       Kd.R_mono (Kd.R_below (Kd.R_bound HV4.out) hb5) (fun k hk => by have h3 := hk.2.2.1; show k ≠ G; omega), below_step HB4.out hb5⟩
      have HOO := Lib.hid hO
      have HG := Lib.hid hGl
      clear hv5 hb5 he2 hO H5 HB4 HV4 H9b hbG hGl HAdd HSub HShare HClone
      go_loopg [16, 17, 83] ps.length (fun kx _ _ s83 wl => ∃ i : Nat, s83 = .int .i64 i ∧ i ≤ ps.length ∧ ps.length - i ≤ kx ∧ Hid (StrO w G c15 c9 c13 A9 A13 l0 ps r1 i wl))
      case atStart => exact ⟨0, rfl, Nat.zero_le _, Nat.le_refl _, HOO⟩
      case round =>
       clear HOO HG
       obtain ⟨i, rfl, hi, hkx, HI⟩ := hrel
       by_cases hlti : i < ps.length
       ·have hltz : (i : Int) < (ps.length : Int) := by omega
        have hltr : i < r1.length := by have := Hlen.out; omega
        have hbi : i < 10000 := by have := Hpl.out; have := HK2.out; omega
        have hltrz : (i : Int) < (r1.length : Int) := by omega
        have hlm2 : (ps.map (fun (j : Nat) => (j : Int))).length = ps.length := List.length_map _
        obtain ⟨ad9, rfl, _, q9⟩ := cells_of_C (Kd.R_reads' HI.out.pl).2.2 (by omega)
        obtain ⟨ad13, rfl, _, q13⟩ := cells_of_C (Kd.R_reads' HI.out.mo).2.2 (by omega)
        have x9 := q9 i (by omega)
        rw [List.getElem_map] at x9
        have x13 := q13 i hltr
        have hpi : ps[i] < l0.length := by have := Hlt.out ps[i] (List.getElem_mem hlti); have := K1.out; omega
        have hst := addAll_take l0 ps r1 i hlti hltr
        have hal := addAll_length l0 ((ps.zip r1).take i)
        have hown := HI.out.own
        have hpl2 := HI.out.pl
        have hmo2 := HI.out.mo
        have hbe2 := HI.out.below
        generalize addAll l0 ((ps.zip r1).take i) = cur at hst hal hown
        generalize ps[i] = pn at x9 hpi hst
        generalize r1[i] = mm at x13 hst
        have hown' : Kd.R (Kd.int .i64) 2 wr w.heap.size (fun _ => True) (.slice (some ⟨G, 0, none⟩) cur.length c15) cur := by rw [hal]; exact hown
        obtain ⟨q1, q2⟩ := Kd.R_cell (h1 := fun _ => rfl) (enc := Value.int .i64) 0 hown' (pn : Int) (by omega) (by omega)
        have e1 : rdOf 0 cur (pn : Int) = cur[pn]?.getD 0 := by unfold rdOf; rw [Int.toNat_natCast, List.getD_eq_getElem?_getD]
        rw [e1, Int.toNat_natCast] at q1
        rw [Int.toNat_natCast] at q2
        have hput := Kd.R_put (h1 := fun _ => rfl) (enc := Value.int .i64) (Kd.R_drew hown') (pn : Int) (wrap64 (cur[pn]?.getD 0 + mm))
        rw [Int.toNat_natCast, ← hst, hal] at hput
        generalize cur[pn]?.getD 0 = old at q1 hput
        have hnext : StrO w G c15 c9 c13 (some ad9) (some ad13) l0 ps r1 (i + 1) (wr.drew.setCell ⟨G, pn, none⟩ (.int .i64 (wrap64 (old + mm)))) :=
         ⟨hput.1, Kd.R_far (p := ⟨G, pn, none⟩) (Kd.R_drew hpl2) (fun _ hk => hk) _, Kd.R_far (p := ⟨G, pn, none⟩) (Kd.R_drew hmo2) (fun _ hk => hk) _, (below_drew hbe2).setCell (p := ⟨G, pn, none⟩) (Kd.R_base hown G rfl) _⟩
        have HN := Lib.hid hnext
        have hpz : (pn : Int) < (l0.length : Int) := by omega
        clear q9 q13 hst hal hown hown' hpl2 hmo2 hbe2 e1 hput hnext HI hlm2
        go_upto_region 20 with (fail)
        refine Go.Proofs.Ytgghbmhmpkeccaa.Round.region_tail 10 (by kernel_rfl) (by kernel_rfl) (by kernel_rfl) ?_
        simp only [List.take_succ_cons, List.take_zero, List.drop_succ_cons, List.drop_zero]
        repeat (go_big_quiet_step (fail))
        refine wpQuiet_nil ?_
        go_wp2
        go_roundg (ps.length - (i + 1))
        case measure => omega
        case rel => exact ⟨i + 1, by go_num, by omega, Nat.le_refl _, HN⟩
       ·obtain rfl : i = ps.length := by omega
        have hfin := HI.out.own
        rw [List.take_of_length_le (by rw [List.length_zip]; omega)] at hfin
        have HF := Lib.hid hfin
        have HB9 := Lib.hid HI.out.below
        clear hfin HI
        go_wp2
        (try simp only [Exit.jump])
        go_ret2
        rw [HP.out]
        exact ⟨_, rfl, HF.out, HB9.out⟩
set_option maxRecDepth 1000000 in
theorem heights_Stretch.calls (A0 : Option Addr) (c0 : Nat) (l0 : List Int) (A1 : Option Addr) (c1 : Nat) (l1 : List Int) (a2 : Int) (r1 : List Int) (r2 : Int) (w : World) (hr0 : Kd.C (Kd.int .i64) w A0 l0.length l0) (hc0 : l0.length ≤ c0) (hr1 : Kd.C (Kd.int .i64) w A1 l1.length l1) (hc1 : l1.length ≤ c1) (h : heights_Stretch.f l0 l1 a2 = some (r1, r2)) :
  Calls Try.prog 13 #[.slice A0 l0.length c0, .slice A1 l1.length c1, .int .i64 a2] w fun e w' => ∃ v0_ : Value, e = .returned (.tuple #[v0_, .int .i64 r2]) ∧ Kd.R (Kd.int .i64) 2 w' w.heap.size (fun _ => True) v0_ r1 ∧ Below w.heap.size w w' := by
 suffices hs : Calls Try.prog 13 #[.slice A0 l0.length c0, .slice A1 l1.length c1, .int .i64 a2] w (StrPost w r1 r2) from hs
 unfold heights_Stretch.f at h
 by_cases hok : stretchOk l0 l1 a2 = true
 ·rw [if_pos hok] at h
  obtain ⟨s, hs, h⟩ := Option.bind_eq_some_iff.1 h
  obtain ⟨r, hr, h⟩ := Option.bind_eq_some_iff.1 h
  by_cases hl : (stretchP l1).length ≤ r.1.length
  ·rw [if_pos hl] at h
   simp only [Option.some.injEq, Prod.mk.injEq] at h
   obtain ⟨rfl, rfl⟩ := h
   exact stretch_main A0 c0 l0 A1 c1 l1 a2 w hr0 hc0 hr1 hc1 hok s hs r hr hl
  ·rw [if_neg hl] at h
   cases h
 ·rw [if_neg hok] at h
  simp only [Option.some.injEq, Prod.mk.injEq] at h
  obtain ⟨rfl, rfl⟩ := h
  exact stretch_bad A0 c0 l0 A1 c1 l1 a2 w hr0 hc0 hr1 hc1 (by simpa using hok)
end

end Go.Proofs.Ytgghbmhmpkeccaa.PA
