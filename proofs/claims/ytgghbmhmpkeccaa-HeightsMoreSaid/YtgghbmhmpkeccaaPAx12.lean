-- MADE by wip/tools/xprint.py of this repo: the kit's print.py, turned by this session, and texts by hand
import Derived.Test.YtgghbmhmpkeccaaPAx0
import Derived.Test.YtgghbmhmpkeccaaPAx1
import Derived.Test.YtgghbmhmpkeccaaPAx4
import Derived.Test.YtgghbmhmpkeccaaPAx10
import Derived.Test.YtgghbmhmpkeccaaPAx11
import Derived.Test.YtgghbmhmpkeccaaTail
namespace Go.Proofs.Ytgghbmhmpkeccaa.PA
open Go.RowKit Go.Proofs.YtgghbmhmpkeccaaW.PrintWords Go.Proofs.YtgghbmhmpkeccaaW.PrintLast Go.Proofs.YtgghbmhmpkeccaaW.PrintMore
attribute [local go_sem] max2_int min2_int max_two min_two max_three min_three max_four min_four   -- for this text's walks alone
set_option linter.unusedVariables false
set_option linter.unusedSimpArgs false

-- BY HAND: cells.tpl
section
open Go.RowKit Go.Shelf Go.Lib Go.Sort StabCell Go.Proofs.YtgghbmhmpkeccaaW.PrintWords Go.Proofs.YtgghbmhmpkeccaaW.PrintLast Go.Proofs.YtgghbmhmpkeccaaW.PrintMore
attribute [local go_sem] Oper.semAt_some
/-- Cells but those of Q lie as they lay. -/
def KpH (Q : Nat → Prop) (A B : World) : Prop := A.heap.size ≤ B.heap.size ∧ ∀ b o, ¬ Q b → A.heap[b]? = some o → o.isCells = true → B.heap[b]? = some o
theorem KpH.refl (Q : Nat → Prop) (A : World) : KpH Q A A := ⟨Nat.le_refl _, fun _ _ _ h _ => h⟩
theorem KpH.trans {Q : Nat → Prop} {A B C : World} (h : KpH Q A B) (k : KpH Q B C) : KpH Q A C := ⟨Nat.le_trans h.1 k.1, fun b o hq ho hc => k.2 b o hq (h.2 b o hq ho hc) hc⟩
theorem KpH.putObj {Q : Nat → Prop} (W : World) (l : Nat) (o o' : Obj) (h : W.heap[l]? = some o) (hc : o.isCells = false) : KpH Q W (W.putObj l o') := by
 refine ⟨by simp, fun b u _ hu huc => ?_⟩
 have hne : l ≠ b := fun e => by
  subst e
  rw [h] at hu
  cases hu
  rw [hc] at huc
  cases huc
 exact (World.putObj_heap_other (Ne.symm hne)).trans hu
theorem KpH.of_below {Q : Nat → Prop} {A B : World} (h : Below A.heap.size A B) : KpH Q A B := ⟨h.size, fun b o _ ho _ => (h.block b (Array.getElem?_eq_some_iff.1 ho).1).trans ho⟩
theorem KpH.of_grownBy {Q : Nat → Prop} {A B : World} {row : Option Nat} (h : A.grownBy B row) (hP : ∀ r, row = some r → Q r) : KpH Q A B :=
 ⟨h.size, fun b o hq ho _ => (h.block b (Array.getElem?_eq_some_iff.1 ho).1 (fun e => hq (hP b e.symm))).trans ho⟩
theorem KpH.cells {Q : Nat → Prop} {A B : World} (h : KpH Q A B) {b : Nat} {cs : Array Value} {t : TypeId} {z : Nat × Nat} (hq : ¬ Q b) (hc : A.heap[b]? = some (.cells cs t z)) : B.heap[b]? = some (.cells cs t z) := h.2 b _ hq hc rfl
theorem KpH.cell {Q : Nat → Prop} {A B : World} (h : KpH Q A B) {a : Addr} {v : Value} (hq : ¬ Q a.block) (hc : A.cell? a = some v) : B.cell? a = some v := by
 obtain ⟨o, ho, hk⟩ := cells_of_cell hc
 exact (World.cell?_of_block ((h.2 a.block o hq ho hk).trans ho.symm)).trans hc
/-- A cell: its place, its height. -/
structure HCell where
 f0 : S35
 f1 : Int
def zH : HCell := ⟨z35, (0 : Int)⟩
def kH : Kd HCell := Kd.iso (Kd.pair k35 (Kd.int .i64)) (fun x : HCell => (x.f0, x.f1))
def cellC (x : HCell) : List Value := [.int .i64 x.f0.f0, .int .i64 x.f0.f1, .int .i64 x.f0.f2, .int .i64 x.f0.f3, .int .i64 x.f0.f4, .int .i64 x.f1]
theorem kH_open {w : World} {x : HCell} {cs : List Value} (h : kH.K w x cs) : cs = cellC x := by
 obtain ⟨_, _, rfl, s0, s5⟩ := h
 obtain rfl := k35_open s0
 obtain rfl := s5
 exact rfl
theorem kH_mk (w : World) (x : HCell) : kH.K w x (cellC x) := ⟨[.int .i64 x.f0.f0, .int .i64 x.f0.f1, .int .i64 x.f0.f2, .int .i64 x.f0.f3, .int .i64 x.f0.f4], [.int .i64 x.f1], rfl, k35_mk w x.f0, rfl⟩
theorem kH_mkM (w : World) (base : Nat) (ok : Nat → Prop) (x : HCell) : kH.M w base ok x (cellC x) := ⟨[.int .i64 x.f0.f0, .int .i64 x.f0.f1, .int .i64 x.f0.f2, .int .i64 x.f0.f3, .int .i64 x.f0.f4], [.int .i64 x.f1], rfl, k35_mkM w base ok x.f0, rfl⟩
theorem infoH : (Try.prog.info? 41).map (fun i => (i.zero, i.size, i.bytes)) = some (some (.agg #[(.int .i64 0), (.int .i64 0), (.int .i64 0), (.int .i64 0), (.int .i64 0), (.int .i64 0)]), 6, 48) := by kernel_rfl
abbrev cellV (x : HCell) : Array Value := #[.agg #[.int .i64 x.f0.f0, .int .i64 x.f0.f1, .int .i64 x.f0.f2, .int .i64 x.f0.f3, .int .i64 x.f0.f4, .int .i64 x.f1]]
def cellAt (l : List HCell) (i : Nat) : List Value := cellC (l[i]?.getD zH)
def rowsAt (l : List HCell) (i : Nat) : Int := (l[i]?.getD zH).f0.f3
def cmpH (l : List HCell) (i j : Nat) : Int := cmpI (rowsAt l i) (rowsAt l j)
theorem cmpH_lt (l : List HCell) (i j : Nat) : cmpH l i j < 0 ↔ rowsAt l i < rowsAt l j := by
 unfold cmpH cmpI
 (repeat' split) <;> omega
theorem swoH (l : List HCell) : SWO (ltOf (cmpH l)) where
 irrefl x := by unfold ltOf; rw [decide_eq_false_iff_not, cmpH_lt]; omega
 trans x y z h1 h2 := by unfold ltOf at *; rw [decide_eq_true_eq, cmpH_lt] at *; omega
 ntrans x y z h1 h2 := by unfold ltOf at *; rw [decide_eq_false_iff_not, cmpH_lt] at *; omega
set_option maxRecDepth 100000 in
set_option maxHeartbeats 2000000 in
theorem cellCmp (x y : HCell) (W : World) : Calls Try.prog 36 #[.agg #[.int .i64 x.f0.f0, .int .i64 x.f0.f1, .int .i64 x.f0.f2, .int .i64 x.f0.f3, .int .i64 x.f0.f4, .int .i64 x.f1], .agg #[.int .i64 y.f0.f0, .int .i64 y.f0.f1, .int .i64 y.f0.f2, .int .i64 y.f0.f3, .int .i64 y.f0.f4, .int .i64 y.f1]] W fun e w' => e = .returned (.int .i64 (cmpI x.f0.f3 y.f0.f3)) ∧ Grew W w' := by
 have hI := Lib.hid (cmpI_f x.f0.f3 y.f0.f3)
 generalize cmpI x.f0.f3 y.f0.f3 = v at hI ⊢
 go_enter Try.func36, Try.ntmps36
 go_wp2_with (go_at_call 37; refine (cmp_Compare_int.calls x.f0.f3 y.f0.f3 v _ hI.out).mono ?_; rintro e w' ⟨rfl, ⟨nd, rfl⟩⟩)
 go_ret
 exact ⟨rfl, (((Grew.refl W).alloc _).alloc _).drewN _⟩
set_option maxRecDepth 100000 in
set_option maxHeartbeats 2000000 in
/-- The sort, where there are needs. -/
theorem sortCells_calls {n₀ : Nat} {ok : Nat → Prop} (l : List HCell) (g cap : Nat) (w : World) (hR : Kd.R kH 41 w n₀ ok (.slice (some ⟨g, 0, none⟩) l.length cap) l) (hle : l.length ≤ 1000000) :
  Calls Try.prog 35 #[.slice (some ⟨g, 0, none⟩) l.length cap, .func (.func 36) #[] #[]] w fun e w' => e = .returned (.tuple #[]) ∧ ∃ d : Array Nat, d.size = l.length ∧ SrtCell (rowsAt l) d 0 l.length ∧ (∀ x, x < l.length → d[x]! < l.length) ∧ Sort.HoldsK (cellAt l) 6 w' g 0 d ∧ Below n₀ w w' := by
 have eg : ∀ args w, (callFunc 36 args).run Try.prog w = .ok (.enter 36 args) w := enters_of Try.func36 (by kernel_rfl) rfl
 obtain ⟨cs, hb⟩ := Kd.R_typed hR g rfl
 have hgl : g < w.heap.size := Kd.R_lt hR g rfl
 obtain ⟨_, _, hC⟩ := Kd.R_reads' hR
 have hH : Sort.HoldsK (cellAt l) 6 w g 0 (Array.range l.length) := by
  refine holds_rangeCell cellC zH 6 (by omega) (fun _ => rfl) (fun j hj i u hu => ?_) (fun j => blk_frozen hb j)
  obtain ⟨ad', e, hc⟩ := hC.2.2 (by omega)
  cases e
  obtain ⟨c, _, hK, hcell⟩ := hc j l[j] (List.getElem?_eq_getElem hj)
  obtain rfl := kH_open hK
  rw [List.getElem?_eq_getElem hj] at hu
  have := hcell i u hu
  rwa [add_plain] at this
 have hw := sortStable_callsCell (P := Try.prog) (ρ := Try.insCell_ren) (k := 6) (enc := cellAt l) (cf := cmpH l) (key := rowsAt l) (g := 36) (cb := #[]) (blk := g) (off := 0) (cap := cap) (d0 := Array.range l.length) (w0 := w) stabLCell (cmpH_lt l) eg
  (fun m os dk _ x y => (cellCmp _ _ _).mono fun e w' ⟨he, p, hp⟩ => ⟨he, p.n, p.os, hp⟩)
  ⟨fun _ => rfl, fun x v hv => by
   simp only [cellAt, cellC, List.mem_cons, List.not_mem_nil, or_false] at hv
   rcases hv with rfl | rfl | rfl | rfl | rfl | rfl <;> rfl, hH, hgl⟩ (by simp; omega) Try.insCell rfl Try.isAgg41 Try.sizeOf41 (swoH l) (fun x hx => by
   have hx' : x < l.length := by simpa using hx
   simp [hx']) w (SWK.start hH)
 rw [Array.size_range] at hw
 refine hw.mono ?_
 rintro e w' ⟨he, d, h1, h2, h3, h4⟩
 exact ⟨he, d, h1, h2, h3, h4.holds hgl hH (by rw [Array.size_range, h1]), swk_belowCell h4 (Kd.R_base hR g rfl) hgl⟩
/-- Numbers, as places of a row. -/
def finH (n : Nat) (d : List Nat) : List (Fin n) := d.filterMap (fun i => if h : i < n then some ⟨i, h⟩ else none)
theorem finH_append (n : Nat) (d e : List Nat) : finH n (d ++ e) = finH n d ++ finH n e := List.filterMap_append
theorem finH_one (n i : Nat) (h : i < n) : finH n [i] = [⟨i, h⟩] := by simp [finH, h]
theorem finH_map (n : Nat) : ∀ (d : List Nat), (∀ i ∈ d, i < n) → (finH n d).map (fun i => i.1) = d
 | [], _ => rfl
 | i :: d, h => by
  have e : finH n (i :: d) = finH n [i] ++ finH n d := finH_append n [i] d
  rw [e, finH_one n i (h i (by simp)), List.map_append, finH_map n d (fun j hj => h j (by simp [hj]))]
  rfl
theorem finH_length (n : Nat) (d : List Nat) : (finH n d).length ≤ d.length := List.length_filterMap_le _ _
theorem holds_below {l : List HCell} {W W' : World} {g : Nat} {d : Array Nat} (h : Sort.HoldsK (cellAt l) 6 W g 0 d) (hg : g < W.heap.size) (hB : Below W.heap.size W W') : Sort.HoldsK (cellAt l) 6 W' g 0 d := by
 have e := hB.block g hg
 intro j hj
 have := h j hj
 refine ⟨(World.cell?_of_block (a := ⟨g, 0 + j, none⟩) e).trans this.1, ?_⟩
 have h2 := this.2
 unfold World.frozen? at h2 ⊢
 first | (rw [e]; exact h2) | (simp only [World.block?] at h2 ⊢; rw [e]; exact h2)
/-- The cells at places. -/
def cellsOf (l : List HCell) (xs : List (Fin l.length)) : List HCell := xs.map (fun i => l[i.1])
theorem finH_take_succ (n : Nat) (d : List Nat) (k : Nat) (h : k < d.length) (hb : d[k] < n) : finH n (d.take (k + 1)) = finH n (d.take k) ++ [⟨d[k], hb⟩] := by
 rw [List.take_succ_eq_append_getElem h, finH_append, finH_one _ _ hb]
theorem finH_prefix (n : Nat) (d : List Nat) (k : Nat) : finH n (d.take k) <+: finH n d := by
 conv => rhs; rw [← List.take_append_drop k d]
 rw [finH_append]
 exact List.prefix_append _ _
set_option maxRecDepth 100000 in
set_option maxHeartbeats 4000000 in
/-- slices.Values's iterator: the cells come as they lie. -/
theorem values_in (n : Nat) (hn : 1 ≤ n) (lr Bv g c : Nat) (Q : Nat → Prop) (A : Option Addr) (l : List HCell) (d : Array Nat) (hd : d.size = l.length) (hdb : ∀ x, x < l.length → d[x]! < l.length) (hle : l.length ≤ 1000000) (hA : 0 < l.length → A = some ⟨g, 0, none⟩)
  (J Jx : List (Fin l.length) → World → Prop)
  (hY : ∀ pre (x : Fin l.length) W, J pre W → pre.length < l.length → YieldAt Fence.wide (n - 1) Try.prog lr (cellV l[x.1]) W fun e W' =>
   (e = .returned (.bool true) ∧ J (pre ++ [x]) W' ∧ KpH Q W W') ∨ (e = .returned (.bool false) ∧ Jx (pre ++ [x]) W'))
  (hJ : ∀ pre W W', J pre W → Below W.heap.size W W' → J pre W')
  (W : World) (hgQ : ¬ Q g) (hBv : W.cell? ⟨Bv, 0, none⟩ = some (.slice A l.length c)) (hH : 0 < l.length → Sort.HoldsK (cellAt l) 6 W g 0 d) (h0 : J [] W) :
  CallsIn Fence.wide n Try.prog 61 #[.func (.yield lr) #[] #[], .pointer (some ⟨Bv, 0, none⟩)] W fun e W' => (∃ v, e = .returned v) ∧
   (J (finH l.length d.toList) W' ∨ (∃ pre, pre <+: finH l.length d.toList ∧ Jx pre W')) := by
 have huN := Try.underlying41
 have HD1 := Lib.hid hd
 have HD3 := Lib.hid hdb
 have HH := Lib.hid hH
 have HA := Lib.hid hA
 clear hd hdb hH hA
 refine callsIn_of_wp Try.func61 rfl trivial ?_ rfl
 simp only [Try.ntmps61, List.size_toArray, List.length_cons, List.length_nil, Nat.reduceAdd, Nat.reduceSub, Array.replicate_succ, Array.replicate_zero, List.push_toArray, List.append_toArray, List.nil_append, List.cons_append]
 gi_wp2
 gi_loopw [7] (fun i wr => ∃ k : Nat, k ≤ l.length ∧ i = .int .i64 k ∧ J (finH l.length (d.toList.take k)) wr ∧ KpH Q W wr) (fun i _ => l.length - (intOf i).toNat)
 case atStart => exact ⟨0, Nat.zero_le _, rfl, by simpa [finH] using h0, KpH.refl _ _⟩
 case round =>
  clear h0
  obtain ⟨k, hk, rfl, hJs, hnx⟩ := hrel
  by_cases hlt : k < l.length
  ·have hltz : (k : Int) < (l.length : Int) := by omega
   obtain rfl := HA.out (by omega)
   have hdl : k < d.toList.length := by have := HD1.out; simp; omega
   have hcs := fun c (hc : c < 6) => hnx.cell (a := ⟨g, 0 + k * 6 + c, none⟩) hgQ ((HH.out (by omega)).cell (i := k) (c := c) (by have := HD1.out; omega) hc).1
   simp only [Nat.zero_add] at hcs
   have hdk : d.toList[k] = d[k]! := by rw [getElem!_pos d k (by simpa using hdl)]; simp
   have hdb : d.toList[k] < l.length := by rw [hdk]; exact HD3.out k hlt
   have hst := Lib.hid (finH_take_succ l.length d.toList k hdl hdb)
   obtain ⟨y, hy0⟩ : ∃ y : Fin l.length, y = ⟨d.toList[k], hdb⟩ := ⟨_, rfl⟩
   rw [← hy0] at hst
   have hlx : l[d[k]!]?.getD zH = l[y.1] := by
    subst hy0
    show _ = l[d.toList[k]]
    rw [← hdk, List.getElem?_eq_getElem hdb]
    rfl
   unfold cellAt at hcs
   rw [hlx] at hcs
   have hYx := fun pre W => hY pre y W
   have HYx := Lib.hid hYx
   generalize l[y.1] = x at hcs HYx
   clear hdk hdb hlx hy0 hYx
   have hx0 := hcs 0 (by omega)
   have hx1 := hcs 1 (by omega)
   have hx2 := hcs 2 (by omega)
   have hx3 := hcs 3 (by omega)
   have hx4 := hcs 4 (by omega)
   have hx5 := hcs 5 (by omega)
   clear hcs
   simp [cellC] at hx0 hx1 hx2 hx3 hx4 hx5
   have hls : (finH l.length (d.toList.take k)).length < l.length := by
    refine Nat.lt_of_le_of_lt (finH_length _ _) ?_
    rw [List.length_take]
    omega
   have Hls := Lib.hid hls
   clear hls
   have hB3 : Below wr.heap.size wr (wr.alloc (.cells #[.int .i64 x.f0.f0, .int .i64 x.f0.f1, .int .i64 x.f0.f2, .int .i64 x.f0.f3, .int .i64 x.f0.f4, .int .i64 x.f1] 41)) := (Below.refl _ wr).alloc (Nat.le_refl _) _
   have hJd := hJ _ _ _ hJs hB3
   have hk3 := Lib.hid (hnx.trans (KpH.of_below hB3))
   gi_wp2
   obtain ⟨fn, tmps, assign, body, hy, hR⟩ := HYx.out _ _ hJd Hls.out
   dsimp only [cellV] at hy
   rw [hy]
   clear hJd hJs hnx hB3
   gi_wp2
   refine hR.mono ?_
   rintro e W3 (⟨rfl, hJ3, hk4⟩ | ⟨rfl, hJx3⟩)
   ·gi_wp2
    go_roundw
    case rel => exact ⟨k + 1, by omega, by go_num, by rw [hst.out]; exact hJ3, hk3.out.trans hk4⟩
    case measure => simp [intOf]; omega
   ·gi_wp2
    refine bodyPost_ret (results_none rfl _ _ _) rfl ?_
    refine ⟨⟨_, rfl⟩, .inr ⟨_, ?_, hJx3⟩⟩
    rw [← hst.out]
    exact finH_prefix l.length d.toList (k + 1)
  ·obtain rfl : k = l.length := by omega
   gi_wp2
   go_end0
   refine ⟨⟨_, rfl⟩, .inl ?_⟩
   rw [List.take_of_length_le (by have := HD1.out; simp; omega)] at hJs
   exact hJs
/-- The iterator: those cells come, in that order. -/
theorem values_stops (n : Nat) (hn : 1 ≤ n) (Bv g c : Nat) (Q : Nat → Prop) (A : Option Addr) (l : List HCell) (d : Array Nat) (hd : d.size = l.length) (hdb : ∀ x, x < l.length → d[x]! < l.length) (hle : l.length ≤ 1000000) (hA : 0 < l.length → A = some ⟨g, 0, none⟩)
  (w : World) (hgQ : ¬ Q g) (hBv : w.cell? ⟨Bv, 0, none⟩ = some (.slice A l.length c)) (hg : 0 < l.length → g < w.heap.size) (hH : 0 < l.length → Sort.HoldsK (cellAt l) 6 w g 0 d) :
  SeqStopsK Fence.wide n Try.prog 61 #[.pointer (some ⟨Bv, 0, none⟩)] (fun x : Fin l.length => cellV l[x.1]) (KpH Q) (fun xs => xs = finH l.length d.toList) (fun pre => pre <+: finH l.length d.toList) l.length w := fun lr J Jx W hW hJ _ hY h0 => by
 have hJ' : ∀ pre W1 W2, J pre W1 → Below W1.heap.size W1 W2 → J pre W2 := fun pre W1 W2 hj hB => hJ pre W1 W2 none hj (grown_of_below hB none) (fun _ e => by cases e)
 have hBv' : W.cell? ⟨Bv, 0, none⟩ = some (.slice A l.length c) := (hW.cell (p := ⟨Bv, 0, none⟩) (World.block_lt_of_cell? w _ hBv)).trans hBv
 refine (values_in n hn lr Bv g c Q A l d hd hdb hle hA J Jx hY hJ' W hgQ hBv' (fun h => holds_below (hH h) (hg h) hW) h0).mono ?_
 rintro e W' ⟨he, h | ⟨pre, hp, h⟩⟩
 ·exact ⟨he, .inl ⟨_, rfl, h⟩⟩
 ·exact ⟨he, .inr ⟨pre, hp, h⟩⟩
local macro "take_first " i:num : tactic => `(tactic| (refine wpAny_take (i := $i) (v := ?_) rfl (by kernel_rfl) (by kernel_rfl) (by kernel_rfl) (fun _ _ _ h => h) (Or.inl ⟨by rfl, ?hy⟩) ?_; case hy => ((intro w; go_simp); first | done | with_reducible rfl)))
local macro "one_ready " i:num : tactic => `(tactic| (refine wpAny_ready (rs := [$i]) (by kernel_rfl) (by simp) ?_; refine AllReady.cons rfl (fun $(Lean.mkIdent `K) $(Lean.mkIdent `hK) => ?_) AllReady.nil; go_simp; refine $(Lean.mkIdent `hK) _ _ ?_; clear $(Lean.mkIdent `hK) $(Lean.mkIdent `K)))
theorem values_calls (A : Option Addr) (n c : Nat) (w : World) : Calls Try.prog 38 #[.slice A n c] w fun e w' => e = .returned (.func (.func 61) #[] #[.pointer (some ⟨w.heap.size, 0, none⟩)]) ∧ w' = w.alloc (.cells #[.slice A n c] 56) := by
 go_enter Try.func38, Try.ntmps38
 go_wp2
 go_ret
 exact ⟨rfl, rfl⟩
/-- Places with their heights. -/
def cellsL (l1 : List S35) (l2 : List Int) : List HCell := List.zipWith HCell.mk l1 l2
/-- What cells hands back: an iterator over a sorted row. -/
structure CellsP (w : World) (L : List HCell) (Bv g cap : Nat) (A : Option Addr) (d : Array Nat) (W : World) : Prop where
 size : d.size = L.length
 srt : SrtCell (rowsAt L) d 0 L.length
 lt : ∀ x, x < L.length → d[x]! < L.length
 bv : w.heap.size ≤ Bv
 box : W.heap[Bv]? = some (.cells #[.slice A L.length cap] 56 (0, 0))
 at_ : 0 < L.length → A = some ⟨g, 0, none⟩
 own : w.heap.size ≤ g
 glt : 0 < L.length → g < W.heap.size
 holds : 0 < L.length → Sort.HoldsK (cellAt L) 6 W g 0 d
 below : Below w.heap.size w W
set_option maxRecDepth 1000000 in
set_option maxHeartbeats 4000000 in
theorem cells_calls (A1 : Option Addr) (c1 : Nat) (l1 : List S35) (A2 : Option Addr) (c2 : Nat) (l2 : List Int) (w : World) (hr1 : Kd.C k35 w A1 l1.length l1) (hr2 : Kd.C (Kd.int .i64) w A2 l2.length l2) (hlen : l1.length = l2.length) (hle : l1.length ≤ 1000) :
  Calls Try.prog 15 #[.slice A1 l1.length c1, .slice A2 l2.length c2] w fun e w' => ∃ Bv g cap A d, e = .returned (.func (.func 61) #[] #[.pointer (some ⟨Bv, 0, none⟩)]) ∧ CellsP w (cellsL l1 l2) Bv g cap A d w' := by
 have huP := Try.underlying35
 have huH := Try.underlying41
 have hLl : (cellsL l1 l2).length = l1.length := by unfold cellsL; rw [List.length_zipWith]; omega
 have HL := Lib.hid hLl
 have Hr1 := Lib.hid hr1
 have Hr2 := Lib.hid hr2
 have Hlen := Lib.hid hlen
 clear hr1 hr2 hLl hlen
 go_enter Try.func15, Try.ntmps15
 go_wp2
 go_loopg [5, 6, 10] l1.length (fun kx s5 _ s10 wr => ∃ (i : Nat), s10 = .int .i64 i ∧ i ≤ l1.length ∧ l1.length - i ≤ kx ∧ Hid (Kd.R kH 41 wr w.heap.size (fun _ => True) s5 ((cellsL l1 l2).take i)) ∧ Hid (Below w.heap.size w wr))
 case atStart => exact ⟨0, rfl, Nat.zero_le _, Nat.le_refl _, Lib.hid (Kd.R_nil _ _ _ _ _), Lib.hid (Below.refl _ _)⟩
 case round =>
  obtain ⟨i, rfl, hi, hkx, HR, HB⟩ := hrel
  by_cases hlt : i < l1.length
  ·have hltz : (i : Int) < (l1.length : Int) := by omega
   have hlt2 : i < l2.length := by have := Hlen.out; omega
   have hltz2 : (i : Int) < (l2.length : Int) := by omega
   obtain ⟨ad, rfl, hx0, hx1, hx2, hx3, hx4⟩ := at_T35 Hr1.out (i : Int) (by omega) hltz
   rw [rd_place_nat l1 i hlt, Int.toNat_natCast] at hx0 hx1 hx2 hx3 hx4
   obtain ⟨ad2, rfl, _, hcell⟩ := cells_of_C Hr2.out (by omega)
   have hy := hcell i hlt2
   clear hcell
   have hB3 : ∀ (p : Addr) (v : Value), w.cell? p = some v → wr.cell? p = some v := fun p v h => (HB.out.cell (World.block_lt_of_cell? w _ h)).trans h
   replace hx0 := hB3 _ _ hx0
   replace hx1 := hB3 _ _ hx1
   replace hx2 := hB3 _ _ hx2
   replace hx3 := hB3 _ _ hx3
   replace hx4 := hB3 _ _ hx4
   replace hy := hB3 _ _ hy
   clear hB3
   have hcl : ((cellsL l1 l2).take i).length ≤ 1000 := by rw [List.length_take]; omega
   have hsn := Lib.hid (show (cellsL l1 l2).take (i + 1) = (cellsL l1 l2).take i ++ [⟨l1[i], l2[i]⟩] by rw [List.take_succ_eq_append_getElem (by have := HL.out; omega)]; simp [cellsL])
   generalize (cellsL l1 l2).take i = cur at HR hcl hsn
   generalize l1[i] = p at hx0 hx1 hx2 hx3 hx4 hsn
   generalize l2[i] = h at hy hsn
   obtain ⟨p0, p1, p2, p3, p4⟩ := p
   dsimp only at hx0 hx1 hx2 hx3 hx4
   go_upto_region 5 with (fail)
   obtain ⟨W2, hW2⟩ : ∃ W2, wr.alloc (.cells #[.int .i64 p0, .int .i64 p1, .int .i64 p2, .int .i64 p3, .int .i64 p4] 35) = W2 := ⟨_, rfl⟩
   have HR2 := Lib.hid (show Kd.R kH 41 W2 w.heap.size (fun _ => True) _ cur from hW2 ▸ Kd.R_alloc HR.out _)
   have HB2 := Lib.hid (show Below w.heap.size w W2 from hW2 ▸ HB.out.alloc HB.out.size _)
   have HS2 := Lib.hid (show w.heap.size ≤ W2.heap.size from HB2.out.size)
   have hnb : W2.heap[wr.heap.size]? = some (.cells #[.int .i64 p0, .int .i64 p1, .int .i64 p2, .int .i64 p3, .int .i64 p4] 35 (0, 0)) := by rw [← hW2]; exact heap_alloc_new _ _
   have hz0 := (blk_cell hnb 0).trans rfl
   have hz1 := (blk_cell hnb 1).trans rfl
   have hz2 := (blk_cell hnb 2).trans rfl
   have hz3 := (blk_cell hnb 3).trans rfl
   have hz4 := (blk_cell hnb 4).trans rfl
   have hy2 : W2.cell? (ad2.add i) = some (.int .i64 h) := by rw [← hW2]; exact Lib.cell?_alloc_some _ hy
   rw [hW2]
   clear hx0 hx1 hx2 hx3 hx4 hy hnb hW2 HR HB
   refine wp_region_any (by kernel_rfl) ?_
   try (change wpAny _ _ _ _ _ _ _ (World.drew _))
   take_first 0
   take_first 2
   take_first 3
   take_first 4
   refine wpAny_ready (rs := [1, 5]) (by kernel_rfl) (by simp) ?_
   refine AllReady.cons rfl (fun K hK => ?_) (AllReady.cons rfl (fun K hK => ?_) AllReady.nil)
   all_goals (go_simp; refine hK _ _ ?_; clear hK K)
   one_ready 5
   rotate_left
   one_ready 1
   all_goals
    one_ready 6
    one_ready 7
    refine Go.Proofs.Ytgghbmhmpkeccaa.Round.ready_list (i := 8) (by kernel_rfl) rfl rfl (fun K hK => ?_)
    refine Kd.R_append kH (w0 := w) w.heap.size rfl (.tmp 15) (.tmp 22) 56 41 (.agg #[(.int .i64 0), (.int .i64 0), (.int .i64 0), (.int .i64 0), (.int .i64 0), (.int .i64 0)]) 48 rfl Try.underlying56 infoH rfl (by decide) (by omega) _ cur ⟨⟨p0, p1, p2, p3, p4⟩, h⟩ [.int .i64 p0, .int .i64 p1, .int .i64 p2, .int .i64 p3, .int .i64 p4, .int .i64 h] (fun _ => True) (fun _ => False) rfl rfl (kH_mkM _ _ _ ⟨⟨p0, p1, p2, p3, p4⟩, h⟩) (fun _ hk => hk.elim) (fun _ _ => trivial) (Kd.R_drew HR2.out) (below_drew HB2.out) HS2.out (by omega) ?_
    intro v1 w1 ho hb hg hat
    have HR1 := Lib.hid ho
    have HB1 := Lib.hid hb
    clear ho hb hg hat
    refine hK _ _ ?_
    clear hK K
    one_ready 9
    refine wpAny_done (by kernel_rfl) ?_ _
    go_wp2
    go_roundg (l1.length - (i + 1))
    case measure => omega
    case rel => exact ⟨i + 1, by go_num, by omega, Nat.le_refl _, by rw [hsn.out]; exact HR1, HB1⟩
  ·obtain rfl : i = l1.length := by omega
   rw [List.take_of_length_le (by have := HL.out; omega)] at HR
   have hlL : (cellsL l1 l2).length = l1.length := HL.out
   obtain ⟨L, hLe⟩ : ∃ L, cellsL l1 l2 = L := ⟨_, rfl⟩
   rw [hLe] at HR hlL
   have HLe := Lib.hid hLe
   clear hLe
   have hv := Lib.hid (fun A c W => values_calls A L.length c W)
   by_cases hpos : 0 < L.length
   ·obtain ⟨g, cap, rfl, hbg, hgl, _⟩ := Kd.R_form HR.out hpos
    have HSo := Lib.hid (sortCells_calls L g cap wr HR.out (by omega))
    have HlL := Lib.hid hlL
    clear HR hlL
    go_wp2_with (first | (go_at_call 35; refine HSo.out.mono ?_; rintro e w2 ⟨rfl, d, hd1, hd2, hd3, hd4, hd5⟩; have HD := Lib.hid (And.intro hd1 (And.intro hd2 (And.intro hd3 (And.intro hd4 hd5)))); clear hd1 hd2 hd3 hd4 hd5) | (go_at_call 38; refine (hv.out _ _ _).mono ?_; rintro e w3 ⟨rfl, rfl⟩))
    go_ret
    obtain ⟨hd1, hd2, hd3, hd4, hd5⟩ := HD.out
    have hg2 : g < w2.heap.size := Nat.lt_of_lt_of_le hgl hd5.size
    have hB2 : Below w.heap.size w w2 := HB.out.trans hd5
    rw [HLe.out]
    exact ⟨_, g, cap, _, d, rfl, hd1, hd2, hd3, hB2.size, heap_alloc_new _ _, fun _ => rfl, hbg, fun _ => Nat.lt_of_lt_of_le hg2 ((Below.refl _ w2).alloc (Nat.le_refl _) _).size, fun _ => holds_below hd4 hg2 ((Below.refl _ _).alloc (Nat.le_refl _) _), hB2.alloc hB2.size _⟩
   ·obtain rfl : L = [] := List.length_eq_zero_iff.1 (by omega)
    obtain ⟨A, cap, rfl, _, _⟩ := Kd.R_reads HR.out
    have HSo := Lib.hid (sortNilCell A cap 36 #[] wr)
    have HlL := Lib.hid hlL
    clear HR hlL
    go_wp2_with (first | (go_at_call 35; refine HSo.out.mono ?_; rintro e w2 ⟨rfl, rfl⟩) | (go_at_call 38; refine (hv.out _ _ _).mono ?_; rintro e w3 ⟨rfl, rfl⟩))
    go_ret
    rw [HLe.out]
    exact ⟨_, w.heap.size, cap, _, #[], rfl, rfl, fun _ _ _ _ h => absurd h (by simp), fun _ h => absurd h (by simp), HB.out.size, heap_alloc_new _ _, fun h => absurd h (by simp), Nat.le_refl _, fun h => absurd h (by simp), fun h => absurd h (by simp), HB.out.alloc HB.out.size _⟩
end

end Go.Proofs.Ytgghbmhmpkeccaa.PA
