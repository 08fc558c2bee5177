-- MADE by wip/tools/xprint.py of this repo: the kit's print.py, turned by this session, and texts by hand
import Derived.Test.YtpoboffdlnnbmaaPAx0
import Derived.Test.YtpoboffdlnnbmaaPAx2
import Derived.Test.YtpoboffdlnnbmaaPAx5
import Derived.Test.YtpoboffdlnnbmaaPAx16
import Derived.Test.YtpoboffdlnnbmaaPAx17
namespace Go.Proofs.Ytpoboffdlnnbmaa.PA
open Go.RowKit Go.Proofs.YtpoboffdlnnbmaaW.PrintWords Go.Proofs.YtpoboffdlnnbmaaW.PrintLast Go.Proofs.YtpoboffdlnnbmaaW.PrintMore
attribute [local go_sem] max2_int min2_int max_two min_two max_three min_three max_four min_four   -- for this text's walks alone
set_option linter.unusedVariables false
set_option linter.unusedSimpArgs false

-- BY HAND: spans.tpl
section
open Go.RowKit Go.Shelf Go.Lib Go.Sort StabNeed Go.Proofs.YtpoboffdlnnbmaaW.PrintWords Go.Proofs.YtpoboffdlnnbmaaW.PrintLast Go.Proofs.YtpoboffdlnnbmaaW.PrintMore
attribute [local go_sem] Oper.semAt_some
/-- Cells but those of Q lie as they lay. -/
def KpOut (Q : Nat → Prop) (A B : World) : Prop := A.heap.size ≤ B.heap.size ∧ ∀ b o, ¬ Q b → A.heap[b]? = some o → o.isCells = true → B.heap[b]? = some o
theorem KpOut.refl (Q : Nat → Prop) (A : World) : KpOut Q A A := ⟨Nat.le_refl _, fun _ _ _ h _ => h⟩
theorem KpOut.trans {Q : Nat → Prop} {A B C : World} (h : KpOut Q A B) (k : KpOut Q B C) : KpOut Q A C := ⟨Nat.le_trans h.1 k.1, fun b o hq ho hc => k.2 b o hq (h.2 b o hq ho hc) hc⟩
theorem KpOut.putObj {Q : Nat → Prop} (W : World) (l : Nat) (o o' : Obj) (h : W.heap[l]? = some o) (hc : o.isCells = false) : KpOut Q W (W.putObj l o') := by
 refine ⟨by simp, fun b u _ hu huc => ?_⟩
 have hne : l ≠ b := fun e => by
  subst e
  rw [h] at hu
  cases hu
  rw [hc] at huc
  cases huc
 exact (World.putObj_heap_other (Ne.symm hne)).trans hu
theorem KpOut.of_below {Q : Nat → Prop} {A B : World} (h : Below A.heap.size A B) : KpOut Q A B := ⟨h.size, fun b o _ ho _ => (h.block b (Array.getElem?_eq_some_iff.1 ho).1).trans ho⟩
theorem KpOut.of_grownBy {Q : Nat → Prop} {A B : World} {row : Option Nat} (h : A.grownBy B row) (hP : ∀ r, row = some r → Q r) : KpOut Q A B :=
 ⟨h.size, fun b o hq ho _ => (h.block b (Array.getElem?_eq_some_iff.1 ho).1 (fun e => hq (hP b e.symm))).trans ho⟩
theorem KpOut.cells {Q : Nat → Prop} {A B : World} (h : KpOut Q A B) {b : Nat} {cs : Array Value} {t : TypeId} {z : Nat × Nat} (hq : ¬ Q b) (hc : A.heap[b]? = some (.cells cs t z)) : B.heap[b]? = some (.cells cs t z) := h.2 b _ hq hc rfl
theorem KpOut.cell {Q : Nat → Prop} {A B : World} (h : KpOut Q A B) {a : Addr} {v : Value} (hq : ¬ Q a.block) (hc : A.cell? a = some v) : B.cell? a = some v := by
 obtain ⟨o, ho, hk⟩ := cells_of_cell hc
 exact (World.cell?_of_block ((h.2 a.block o hq ho hk).trans ho.symm)).trans hc
abbrev needV (x : S53) : Array Value := #[.agg #[.int .i64 x.f0.f0, .int .i64 x.f0.f1, .int .i64 x.f0.f2, .int .i64 x.f0.f3, .int .i64 x.f0.f4, .int .i64 x.f1, .int .i64 x.f2, .int .i64 x.f3.f0, .int .i64 x.f3.f1]]
def needC (x : S53) : List Value := [.int .i64 x.f0.f0, .int .i64 x.f0.f1, .int .i64 x.f0.f2, .int .i64 x.f0.f3, .int .i64 x.f0.f4, .int .i64 x.f1, .int .i64 x.f2, .int .i64 x.f3.f0, .int .i64 x.f3.f1]
def needAt_ (l : List S53) (i : Nat) : List Value := needC (l[i]?.getD z53)
def colsAt (l : List S53) (i : Nat) : Int := (l[i]?.getD z53).f0.f4
def cmpC (l : List S53) (i j : Nat) : Int := cmpI (colsAt l i) (colsAt l j)
theorem cmpC_lt (l : List S53) (i j : Nat) : cmpC l i j < 0 ↔ colsAt l i < colsAt l j := by
 unfold cmpC cmpI
 (repeat' split) <;> omega
theorem swoC (l : List S53) : SWO (ltOf (cmpC l)) where
 irrefl x := by unfold ltOf; rw [decide_eq_false_iff_not, cmpC_lt]; omega
 trans x y z h1 h2 := by unfold ltOf at *; rw [decide_eq_true_eq, cmpC_lt] at *; omega
 ntrans x y z h1 h2 := by unfold ltOf at *; rw [decide_eq_false_iff_not, cmpC_lt] at *; omega
set_option maxRecDepth 100000 in
set_option maxHeartbeats 2000000 in
theorem spanCmp (x y : S53) (W : World) : Calls Try.prog 39 #[.agg #[.int .i64 x.f0.f0, .int .i64 x.f0.f1, .int .i64 x.f0.f2, .int .i64 x.f0.f3, .int .i64 x.f0.f4, .int .i64 x.f1, .int .i64 x.f2, .int .i64 x.f3.f0, .int .i64 x.f3.f1], .agg #[.int .i64 y.f0.f0, .int .i64 y.f0.f1, .int .i64 y.f0.f2, .int .i64 y.f0.f3, .int .i64 y.f0.f4, .int .i64 y.f1, .int .i64 y.f2, .int .i64 y.f3.f0, .int .i64 y.f3.f1]] W fun e w' => e = .returned (.int .i64 (cmpI x.f0.f4 y.f0.f4)) ∧ Grew W w' := by
 have hI := Lib.hid (cmpI_f x.f0.f4 y.f0.f4)
 generalize cmpI x.f0.f4 y.f0.f4 = v at hI ⊢
 go_enter Try.func39, Try.ntmps39
 go_wp2_with (go_at_call 40; refine (cmp_Compare_int.calls x.f0.f4 y.f0.f4 v _ hI.out).mono ?_; rintro e w' ⟨rfl, ⟨nd, rfl⟩⟩)
 go_ret
 exact ⟨rfl, (((Grew.refl W).alloc _).alloc _).drewN _⟩
theorem spans_calls (A : Option Addr) (n c : Nat) (w : World) : Calls Try.prog 19 #[.slice A n c] w fun e w' => e = .returned (.func (.func 36) #[] #[.pointer (some ⟨w.heap.size, 0, none⟩)]) ∧ w' = w.alloc (.cells #[.slice A n c] 23) := by
 go_enter Try.func19, Try.ntmps19
 go_wp2
 go_ret
 exact ⟨rfl, rfl⟩
/-- The needs of many columns, those of fewer first: so many kinds of numbers of columns. -/
def spansOut (l : List S53) (m : Nat) : List S53 := (blocks (colsAt l) l.length 2 m).map (fun i => l[i]?.getD z53)
/-- Numbers, as places of a row. -/
def finL (n : Nat) (d : List Nat) : List (Fin n) := d.filterMap (fun i => if h : i < n then some ⟨i, h⟩ else none)
theorem finL_append (n : Nat) (d e : List Nat) : finL n (d ++ e) = finL n d ++ finL n e := List.filterMap_append
theorem finL_one (n i : Nat) (h : i < n) : finL n [i] = [⟨i, h⟩] := by simp [finL, h]
theorem finL_map (n : Nat) : ∀ (d : List Nat), (∀ i ∈ d, i < n) → (finL n d).map (fun i => i.1) = d
 | [], _ => rfl
 | i :: d, h => by
  have e : finL n (i :: d) = finL n [i] ++ finL n d := finL_append n [i] d
  rw [e, finL_one n i (h i (by simp)), List.map_append, finL_map n d (fun j hj => h j (by simp [hj]))]
  rfl
theorem finL_length (n : Nat) (d : List Nat) : (finL n d).length ≤ d.length := List.length_filterMap_le _ _
/-- .. of a sorted row. -/
def spansTo (l : List S53) (d : List Nat) : List (Fin l.length) := finL l.length (d.filter (fun i => decide (2 ≤ colsAt l i)))
theorem spansTo_yes (l : List S53) (d : List Nat) (k : Nat) (h : k < d.length) (hb : d[k] < l.length) (hp : ¬ colsAt l d[k] < 2) : spansTo l (d.take (k + 1)) = spansTo l (d.take k) ++ [⟨d[k], hb⟩] := by
 unfold spansTo
 rw [List.take_succ_eq_append_getElem h, List.filter_append, finL_append]
 have : decide (2 ≤ colsAt l d[k]) = true := decide_eq_true (by omega)
 have e : [d[k]].filter (fun i => decide (2 ≤ colsAt l i)) = [d[k]] := by simp [this]
 rw [e, finL_one _ _ hb]
theorem spansTo_no (l : List S53) (d : List Nat) (k : Nat) (h : k < d.length) (hp : colsAt l d[k] < 2) : spansTo l (d.take (k + 1)) = spansTo l (d.take k) := by
 unfold spansTo
 rw [List.take_succ_eq_append_getElem h, List.filter_append, finL_append]
 have : decide (2 ≤ colsAt l d[k]) = false := decide_eq_false (by omega)
 have e : [d[k]].filter (fun i => decide (2 ≤ colsAt l i)) = [] := by simp [this]
 rw [e]
 exact List.append_nil _
theorem spansTo_length (l : List S53) (d : List Nat) : (spansTo l d).length ≤ d.length := by
 unfold spansTo
 exact Nat.le_trans (finL_length _ _) (List.length_filter_le _ _)
theorem spansTo_prefix (l : List S53) (d : List Nat) (k : Nat) : spansTo l (d.take k) <+: spansTo l d := by
 conv => rhs; rw [← List.take_append_drop k d]
 unfold spansTo
 rw [List.filter_append, finL_append]
 exact List.prefix_append _ _
/-- The needs at places. -/
def needsOf (l : List S53) (xs : List (Fin l.length)) : List S53 := xs.map (fun i => l[i.1])
theorem spansTo_out (l : List S53) (d : List Nat) (m : Nat) (h : d.filter (fun i => decide (2 ≤ colsAt l i)) = blocks (colsAt l) l.length 2 m) (hb : ∀ i ∈ d, i < l.length) : needsOf l (spansTo l d) = spansOut l m := by
 unfold needsOf spansTo spansOut
 rw [h]
 have hb' : ∀ i ∈ blocks (colsAt l) l.length 2 m, i < l.length := fun i hi => by
  rw [← h] at hi
  exact hb i (List.mem_filter.1 hi).1
 have e := finL_map l.length _ hb'
 conv => rhs; rw [← e]
 rw [List.map_map]
 refine List.map_congr_left (fun i _ => ?_)
 show l[i.1] = l[i.1]?.getD _
 rw [List.getElem?_eq_getElem i.2]
 rfl
set_option maxRecDepth 100000 in
set_option maxHeartbeats 2000000 in
/-- The sort, where there are needs. -/
theorem sortNeeds_calls {n₀ : Nat} {ok : Nat → Prop} (l : List S53) (g cap : Nat) (w : World) (hR : Kd.R k53 53 w n₀ ok (.slice (some ⟨g, 0, none⟩) l.length cap) l) (hle : l.length ≤ 10000) :
  Calls Try.prog 38 #[.slice (some ⟨g, 0, none⟩) l.length cap, .func (.func 39) #[] #[]] w fun e w' => e = .returned (.tuple #[]) ∧ ∃ d : Array Nat, d.size = l.length ∧ Srt (colsAt l) d 0 l.length ∧ (∀ x, x < l.length → d[x]! < l.length) ∧ Sort.HoldsK (needAt_ l) 9 w' g 0 d ∧ Below n₀ w w' := by
 have eg : ∀ args w, (callFunc 39 args).run Try.prog w = .ok (.enter 39 args) w := enters_of Try.func39 (by kernel_rfl) rfl
 obtain ⟨cs, hb⟩ := Kd.R_typed hR g rfl
 have hgl : g < w.heap.size := Kd.R_lt hR g rfl
 obtain ⟨_, _, hC⟩ := Kd.R_reads' hR
 have hH : Sort.HoldsK (needAt_ l) 9 w g 0 (Array.range l.length) := by
  refine holds_range needC z53 9 (by omega) (fun _ => rfl) (fun j hj i u hu => ?_) (fun j => blk_frozen hb j)
  obtain ⟨ad', e, hc⟩ := hC.2.2 (by omega)
  cases e
  obtain ⟨c, _, hK, hcell⟩ := hc j l[j] (List.getElem?_eq_getElem hj)
  obtain rfl := k53_open hK
  rw [List.getElem?_eq_getElem hj] at hu
  have := hcell i u hu
  rwa [add_plain] at this
 have hw := sortStable_calls (P := Try.prog) (ρ := Try.insNeed_ren) (k := 9) (enc := needAt_ l) (cf := cmpC l) (key := colsAt l) (g := 39) (cb := #[]) (blk := g) (off := 0) (cap := cap) (d0 := Array.range l.length) (w0 := w) stabL (cmpC_lt l) eg
  (fun m os dk _ x y => (spanCmp _ _ _).mono fun e w' ⟨he, p, hp⟩ => ⟨he, p.n, p.os, hp⟩)
  ⟨fun _ => rfl, fun x v hv => by
   simp only [needAt_, needC, List.mem_cons, List.not_mem_nil, or_false] at hv
   rcases hv with rfl | rfl | rfl | rfl | rfl | rfl | rfl | rfl | rfl <;> rfl, hH, hgl⟩ (by simp; omega) Try.insNeed rfl Try.isAgg53 Try.sizeOf53 (swoC l) (fun x hx => by
   have hx' : x < l.length := by simpa using hx
   simp [hx']) w (SWK.start hH)
 rw [Array.size_range] at hw
 refine hw.mono ?_
 rintro e w' ⟨he, d, h1, h2, h3, h4⟩
 exact ⟨he, d, h1, h2, h3, h4.holds hgl hH (by rw [Array.size_range, h1]), swk_below h4 (Kd.R_base hR g rfl) hgl⟩
theorem colsAt_z (l : List S53) (i : Nat) : colsAt l i = (l[i]?.getD z53).f0.f4 := rfl
set_option maxRecDepth 100000 in
set_option maxHeartbeats 4000000 in
theorem spans_in (n : Nat) (hn : 1 ≤ n) (lr Bw c : Nat) (Q : Nat → Prop) (A : Option Addr) (l : List S53) (m : Nat) (hpos : 0 < l.length) (hle : l.length ≤ 10000) (hm : ∀ i, i < l.length → colsAt l i < 2 + (m : Int)) (hc : l.length ≤ c)
  (J Jx : List (Fin l.length) → World → Prop)
  (hY : ∀ pre (x : Fin l.length) W, J pre W → pre.length < l.length → YieldAt Fence.wide (n - 1) Try.prog lr (needV l[x.1]) W fun e W' =>
   (e = .returned (.bool true) ∧ J (pre ++ [x]) W' ∧ KpOut Q W W') ∨ (e = .returned (.bool false) ∧ Jx (pre ++ [x]) W'))
  (hJ : ∀ pre W W', J pre W → Below W.heap.size W W' → J pre W')
  (W : World) (hQ : ∀ b, Q b → b < W.heap.size) (hBw : W.cell? ⟨Bw, 0, none⟩ = some (.slice A l.length c))
  (hr : Kd.C k53 W A l.length l) (h0 : J [] W) :
  CallsIn Fence.wide n Try.prog 36 #[.func (.yield lr) #[] #[], .pointer (some ⟨Bw, 0, none⟩)] W fun e W' => (∃ v, e = .returned v) ∧
   ((∃ xs, needsOf l xs = spansOut l m ∧ J xs W') ∨ (∃ pre, needsOf l pre <+: spansOut l m ∧ Jx pre W')) := by
 have huN := Try.underlying53
 have hcl := cloned_Need A c l W hr hc hle
 have Hcl := Lib.hid hcl
 have HM := Lib.hid hm
 have Hpos := Lib.hid hpos
 clear hcl hr hm hpos
 refine callsIn_of_wp Try.func36 rfl trivial ?_ rfl
 simp only [Try.ntmps36, List.size_toArray, List.length_cons, List.length_nil, Nat.reduceAdd, Nat.reduceSub, Array.replicate_succ, Array.replicate_zero, List.push_toArray, List.append_toArray, List.nil_append, List.cons_append]
 refine wpIn_wide.2 (wp_scope_straight ((wpIn_wide (n := n)).1 ?_))
 have hF1 : Fence.wide.fn 37 := trivial
 have hF2 : Fence.wide.fn 38 := trivial
 gi_wp2_with (first | (gi_at_call 37; refine (callsIn_wide.2 Hcl.out).mono ?_; rintro e w1 ⟨v, rfl, hv, hb1⟩; have HB1 := Lib.hid hb1; obtain ⟨g, cap, rfl, hbg, hgl, _⟩ := Kd.R_form hv Hpos.out; have hsort := sortNeeds_calls l g cap w1 hv hle; have HV := Lib.hid hv; have HS := Lib.hid hsort; clear hv hb1 hsort) | (gi_at_call 38; refine (callsIn_wide.2 HS.out).mono ?_; rintro e w2 ⟨rfl, d, hd1, hd2, hd3, hd4, hd5⟩; have HD1 := Lib.hid hd1; have HD2 := Lib.hid hd2; have HD3 := Lib.hid hd3; have HD4 := Lib.hid hd4; have HB2 := Lib.hid (HB1.out.trans hd5); clear hd1 hd2 hd3 hd4 hd5))
 have hJ2 := hJ _ _ _ h0 HB2.out
 have HSP := Lib.hid (spansTo_out l d.toList m (sorted_blocks HD1.out HD2.out HD3.out HM.out) (fun i hi => (srt_mem HD1.out HD2.out HD3.out i).1 hi))
 have hgQ : ¬ Q g := fun h => by have := hQ g h; omega
 clear h0 hBw
 refine wpIn_label ?_
 simp only [Exit.then]
 rename_i hK
 refine hK _ _ ?_
 clear hK
 gi_wp2
 gi_loopw [12] (fun i wr => ∃ k : Nat, k ≤ l.length ∧ i = .int .i64 k ∧ J (spansTo l (d.toList.take k)) wr ∧ KpOut Q w2 wr) (fun i _ => l.length - (intOf i).toNat)
 case atStart => exact ⟨0, Nat.zero_le _, rfl, by simpa [spansTo, finL] using hJ2, KpOut.refl _ _⟩
 case round =>
  clear hJ2
  obtain ⟨k, hk, rfl, hJs, hnx⟩ := hrel
  by_cases hlt : k < l.length
  ·have hltz : (k : Int) < (l.length : Int) := by omega
   have hdl : k < d.toList.length := by have := HD1.out; simp; omega
   have hcs := fun c (hc : c < 9) => hnx.cell (a := ⟨g, 0 + k * 9 + c, none⟩) hgQ (HD4.out.cell (i := k) (c := c) (by have := HD1.out; omega) hc).1
   simp only [Nat.zero_add] at hcs
   have hdk : d.toList[k] = d[k]! := by rw [getElem!_pos d k (by simpa using hdl)]; simp
   have hdb : d.toList[k] < l.length := by rw [hdk]; exact HD3.out k hlt
   have hst1 := fun h => Lib.hid (spansTo_yes l d.toList k hdl hdb h)
   have hst2 := fun h => Lib.hid (spansTo_no l d.toList k hdl h)
   obtain ⟨y, hy0⟩ : ∃ y : Fin l.length, y = ⟨d.toList[k], hdb⟩ := ⟨_, rfl⟩
   rw [← hy0] at hst1
   have hlx : l[d[k]!]?.getD z53 = l[y.1] := by
    subst hy0
    show _ = l[d.toList[k]]
    rw [← hdk, List.getElem?_eq_getElem hdb]
    rfl
   have hcx : colsAt l d.toList[k] = l[y.1].f0.f4 := by rw [hdk, colsAt_z, hlx]
   rw [hcx] at hst1 hst2
   unfold needAt_ at hcs
   rw [hlx] at hcs
   have hYx := fun pre W => hY pre y W
   have HYx := Lib.hid hYx
   generalize l[y.1] = x at hcs hst1 hst2 HYx
   clear hdk hdb hlx hcx hy0 hYx
   have hx0 := hcs 0 (by omega)
   have hx1 := hcs 1 (by omega)
   have hx2 := hcs 2 (by omega)
   have hx3 := hcs 3 (by omega)
   have hx4 := hcs 4 (by omega)
   have hx5 := hcs 5 (by omega)
   have hx6 := hcs 6 (by omega)
   have hx7 := hcs 7 (by omega)
   have hx8 := hcs 8 (by omega)
   clear hcs
   simp [needC] at hx0 hx1 hx2 hx3 hx4 hx5 hx6 hx7 hx8
   have hls : (spansTo l (d.toList.take k)).length < l.length := by
    refine Nat.lt_of_le_of_lt (spansTo_length _ _) ?_
    rw [List.length_take]
    omega
   have Hls := Lib.hid hls
   clear hls
   by_cases hq : x.f0.f4 < 2
   ·have hst := hst2 hq
    clear hst1 hst2
    gi_wp2
    go_roundw
    case rel => exact ⟨k + 1, by omega, by go_num, by rw [hst.out]; exact hJ _ _ _ hJs ((Below.refl _ wr).alloc (Nat.le_refl _) _), hnx.trans (KpOut.of_below ((Below.refl _ wr).alloc (Nat.le_refl _) _))⟩
    case measure => simp [intOf]; omega
   ·have hst := hst1 hq
    clear hst1 hst2
    have hB3 : Below wr.heap.size wr (wr.alloc (.cells #[.int .i64 x.f0.f0, .int .i64 x.f0.f1, .int .i64 x.f0.f2, .int .i64 x.f0.f3, .int .i64 x.f0.f4, .int .i64 x.f1, .int .i64 x.f2, .int .i64 x.f3.f0, .int .i64 x.f3.f1] 53)) := (Below.refl _ wr).alloc (Nat.le_refl _) _
    have hJd := hJ _ _ _ hJs hB3
    have hk3 := Lib.hid (hnx.trans (KpOut.of_below hB3))
    gi_wp2
    obtain ⟨fn, tmps, assign, body, hy, hR⟩ := HYx.out _ _ hJd Hls.out
    dsimp only [needV] at hy
    rw [hy]
    clear hJd hJs hnx hB3
    gi_wp2
    refine hR.mono ?_
    rintro e W3 (⟨rfl, hJ3, hk4⟩ | ⟨rfl, hJx3⟩)
    ·gi_wp2
     go_roundw
     case rel => exact ⟨k + 1, by omega, by go_num, by rw [hst.out]; exact hJ3, hk3.out.trans hk4⟩
     case measure => simp [intOf]; omega
    ·gi_wp2
     simp only [Exit.noGoto]
     refine bodyPost_ret (results_none rfl _ _ _) rfl ?_
     refine ⟨⟨_, rfl⟩, .inr ⟨_, ?_, hJx3⟩⟩
     rw [← hst.out, ← HSP.out]
     exact (spansTo_prefix l d.toList (k + 1)).map _
  ·obtain rfl : k = l.length := by omega
   gi_wp2
   simp only [Exit.noGoto]
   go_end0
   refine ⟨⟨_, rfl⟩, .inl ⟨_, HSP.out, ?_⟩⟩
   rw [List.take_of_length_le (by have := HD1.out; simp; omega)] at hJs
   exact hJs
set_option maxRecDepth 100000 in
set_option maxHeartbeats 4000000 in
theorem spans_nil (n : Nat) (hn : 1 ≤ n) (lr Bw c : Nat) (A : Option Addr) (J : World → Prop) (hJ : ∀ W W', J W → Below W.heap.size W W' → J W')
  (W : World) (hBw : W.cell? ⟨Bw, 0, none⟩ = some (.slice A 0 c)) (hr : Kd.C k53 W A 0 []) (h0 : J W) :
  CallsIn Fence.wide n Try.prog 36 #[.func (.yield lr) #[] #[], .pointer (some ⟨Bw, 0, none⟩)] W fun e W' => (∃ v, e = .returned v) ∧ J W' := by
 have Hcl := Lib.hid (cloned_Need A c [] W hr (Nat.zero_le _) (Nat.zero_le _))
 have HS := Lib.hid (fun A c W => sortNil A c 39 #[] W)
 have hF1 : Fence.wide.fn 37 := trivial
 have hF2 : Fence.wide.fn 38 := trivial
 clear hr
 refine callsIn_of_wp Try.func36 rfl trivial ?_ rfl
 simp only [Try.ntmps36, List.size_toArray, List.length_cons, List.length_nil, Nat.reduceAdd, Nat.reduceSub, Array.replicate_succ, Array.replicate_zero, List.push_toArray, List.append_toArray, List.nil_append, List.cons_append]
 refine wpIn_wide.2 (wp_scope_straight ((wpIn_wide (n := n)).1 ?_))
 gi_wp2_with (first | (gi_at_call 37; refine (callsIn_wide.2 Hcl.out).mono ?_; rintro e w1 ⟨v, rfl, hv, hb1⟩; have HB1 := Lib.hid hb1; obtain ⟨A1, c1, rfl, _, _⟩ := Kd.R_reads hv; clear hv hb1) | (gi_at_call 38; refine (callsIn_wide.2 (HS.out _ _ _)).mono ?_; rintro e w2 ⟨rfl, rfl⟩))
 have hJ2 := hJ _ _ h0 HB1.out
 clear h0 hBw
 refine wpIn_label ?_
 simp only [Exit.then]
 rename_i hK
 refine hK _ _ ?_
 clear hK
 gi_wp2
 gi_loopw [12] (fun i wr => i = .int .i64 0 ∧ J wr) (fun i _ => 0)
 case atStart => exact ⟨rfl, hJ2⟩
 case round =>
  clear hJ2
  obtain ⟨rfl, hJs⟩ := hrel
  gi_wp2
  simp only [Exit.noGoto]
  go_end0
  exact ⟨⟨_, rfl⟩, hJs⟩
/-- The iterator: those needs come, in that order. -/
theorem spans_stops (n : Nat) (hn : 1 ≤ n) (Bw c : Nat) (Q : Nat → Prop) (A : Option Addr) (l : List S53) (m : Nat) (hle : l.length ≤ 10000) (hm : ∀ i, i < l.length → colsAt l i < 2 + (m : Int)) (hc : l.length ≤ c)
  (w : World) (hQ : ∀ b, Q b → b < w.heap.size) (hBw : w.cell? ⟨Bw, 0, none⟩ = some (.slice A l.length c)) (hr : Kd.C k53 w A l.length l) :
  SeqStopsK Fence.wide n Try.prog 36 #[.pointer (some ⟨Bw, 0, none⟩)] (fun x : Fin l.length => needV l[x.1]) (KpOut Q) (fun xs => needsOf l xs = spansOut l m) (fun pre => needsOf l pre <+: spansOut l m) l.length w := fun lr J Jx W hW hJ _ hY h0 => by
 have hJ' : ∀ pre W1 W2, J pre W1 → Below W1.heap.size W1 W2 → J pre W2 := fun pre W1 W2 hj hB => hJ pre W1 W2 none hj (grown_of_below hB none) (fun _ e => by cases e)
 have hBw' : W.cell? ⟨Bw, 0, none⟩ = some (.slice A l.length c) := (hW.cell (p := ⟨Bw, 0, none⟩) (World.block_lt_of_cell? w _ hBw)).trans hBw
 by_cases hpos : 0 < l.length
 ·refine (spans_in n hn lr Bw c Q A l m hpos hle hm hc J Jx hY hJ' W (fun b h => Nat.lt_of_lt_of_le (hQ b h) hW.size) hBw' (Kd.C_below hr hW) h0).mono ?_
  rintro e W' ⟨he, ⟨xs, hx, h⟩ | ⟨pre, hp, h⟩⟩
  ·exact ⟨he, .inl ⟨_, hx, h⟩⟩
  ·exact ⟨he, .inr ⟨pre, hp, h⟩⟩
 ·obtain rfl : l = [] := List.length_eq_zero_iff.1 (by omega)
  refine (spans_nil n hn lr Bw c A (J []) (fun W1 W2 => hJ' [] W1 W2) W hBw' (Kd.C_below hr hW) h0).mono ?_
  rintro e W' ⟨he, h⟩
  refine ⟨he, .inl ⟨[], ?_, h⟩⟩
  unfold spansOut blocks needsOf
  simp
end

end Go.Proofs.Ytpoboffdlnnbmaa.PA
