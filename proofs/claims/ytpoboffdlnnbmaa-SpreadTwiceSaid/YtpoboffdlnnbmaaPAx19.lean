-- MADE by wip/tools/xprint.py of this repo: the kit's print.py, turned by this session, and texts by hand
import Derived.Test.YtpoboffdlnnbmaaPAx0
import Derived.Test.YtpoboffdlnnbmaaPAx13
import Derived.Test.YtpoboffdlnnbmaaPAx18
namespace Go.Proofs.Ytpoboffdlnnbmaa.PA
open Go.RowKit Go.Proofs.YtpoboffdlnnbmaaW.PrintWords Go.Proofs.YtpoboffdlnnbmaaW.PrintLast Go.Proofs.YtpoboffdlnnbmaaW.PrintMore
attribute [local go_sem] max2_int min2_int max_two min_two max_three min_three max_four min_four   -- for this text's walks alone
set_option linter.unusedVariables false
set_option linter.unusedSimpArgs false

-- BY HAND: bands2.tpl
section
open Go.RowKit Go.Shelf Go.Lib Go.Proofs.YtpoboffdlnnbmaaW.PrintWords Go.Proofs.YtpoboffdlnnbmaaW.PrintLast Go.Proofs.YtpoboffdlnnbmaaW.PrintMore
attribute [local go_sem] Oper.semAt_some
theorem own_calls (A : Option Addr) (n c : Nat) (w : World) : Calls Try.prog 15 #[.slice A n c] w fun e w' => e = .returned (.func (.func 33) #[] #[.pointer (some ⟨w.heap.size, 0, none⟩)]) ∧ w' = w.alloc (.cells #[.slice A n c] 23) := by
 go_enter Try.func15, Try.ntmps15
 go_wp2
 go_ret
 exact ⟨rfl, rfl⟩
/-- The needs of one column, among the first k. -/
def ownTo (l : List S53) (k : Nat) : List (Fin l.length) := ((List.finRange l.length).take k).filter (fun i => l[i.1].f0.f4 == 1)
theorem ownTake (n k : Nat) (h : k < n) : (List.finRange n).take (k + 1) = (List.finRange n).take k ++ [⟨k, h⟩] := by
 rw [List.take_succ_eq_append_getElem (by simpa using h)]
 simp
theorem ownTo_yes (l : List S53) (k : Nat) (h : k < l.length) (hp : l[k].f0.f4 = 1) : ownTo l (k + 1) = ownTo l k ++ [⟨k, h⟩] := by
 unfold ownTo
 rw [ownTake _ k h, List.filter_append]
 simp [hp]
theorem ownTo_no (l : List S53) (k : Nat) (h : k < l.length) (hp : ¬ l[k].f0.f4 = 1) : ownTo l (k + 1) = ownTo l k := by
 unfold ownTo
 rw [ownTake _ k h, List.filter_append]
 simp [hp]
theorem ownTo_length (l : List S53) (k : Nat) : (ownTo l k).length ≤ k := by
 unfold ownTo
 refine Nat.le_trans (List.length_filter_le _ _) ?_
 rw [List.length_take]
 omega
abbrev ownV (x : S53) : Array Value := #[.int .i64 x.f0.f2, .agg #[.int .i64 x.f0.f0, .int .i64 x.f0.f1, .int .i64 x.f0.f2, .int .i64 x.f0.f3, .int .i64 x.f0.f4, .int .i64 x.f1, .int .i64 x.f2, .int .i64 x.f3.f0, .int .i64 x.f3.f1]]
set_option maxRecDepth 100000 in
set_option maxHeartbeats 4000000 in
theorem own_in (n : Nat) (hn : 1 ≤ n) (lr Bw c : Nat) (Q : Nat → Prop) (A : Option Addr) (l : List S53) (hle : l.length ≤ 10000) (hq : ∀ ad, 0 < l.length → A = some ad → ¬ Q ad.block)
  (J Jx : List (Fin l.length) → World → Prop)
  (hY : ∀ pre (x : Fin l.length) W, J pre W → pre.length < l.length → YieldAt Fence.wide (n - 1) Try.prog lr (ownV l[x.1]) W fun e W' =>
   (e = .returned (.bool true) ∧ J (pre ++ [x]) W' ∧ KpOut Q W W') ∨ (e = .returned (.bool false) ∧ Jx (pre ++ [x]) W'))
  (hJ : ∀ pre W W', J pre W → Below W.heap.size W W' → J pre W')
  (W : World) (hBw : W.cell? ⟨Bw, 0, none⟩ = some (.slice A l.length c))
  (hr : Kd.C k53 W A l.length l) (h0 : J [] W) :
  CallsIn Fence.wide n Try.prog 33 #[.func (.yield lr) #[] #[], .pointer (some ⟨Bw, 0, none⟩)] W fun e W' => (∃ v, e = .returned v) ∧
   (J (ownTo l l.length) W' ∨ ∃ pre, Jx pre W') := by
 have hmax : l.length ≤ 9223372036854775807 := by omega
 have huN := Try.underlying53
 have Hr := Lib.hid hr
 clear hr
 refine callsIn_of_wp Try.func33 rfl trivial ?_ rfl
 simp only [Try.ntmps33, List.size_toArray, List.length_cons, List.length_nil, Nat.reduceAdd, Nat.reduceSub, Array.replicate_succ, Array.replicate_zero, List.push_toArray, List.append_toArray, List.nil_append, List.cons_append]
 refine wpIn_wide.2 (wp_scope_straight ((wpIn_wide (n := n)).1 ?_))
 gi_wp2
 refine wpIn_label ?_
 simp only [Exit.then]
 rename_i hK
 refine hK _ _ ?_
 clear hK
 gi_wp2
 gi_loopw [7] (fun i wr => ∃ k : Nat, k ≤ l.length ∧ i = .int .i64 k ∧ J (ownTo l k) wr ∧ KpOut Q W wr) (fun i _ => l.length - (intOf i).toNat)
 case atStart => exact ⟨0, Nat.zero_le _, rfl, by simpa [ownTo] using h0, KpOut.refl _ _⟩
 case round =>
  obtain ⟨k, hk, rfl, hJs, hnx⟩ := hrel
  by_cases hlt : k < l.length
  ·have hltz : (k : Int) < (l.length : Int) := by omega
   obtain ⟨ad, rfl, hx0, hx1, hx2, hx3, hx4, hx5, hx6, hx7, hx8⟩ := at_T53 Hr.out (k : Int) (by omega) hltz
   rw [rd_need_nat l k hlt, Int.toNat_natCast] at hx0 hx1 hx2 hx3 hx4 hx5 hx6 hx7 hx8
   have hbk : ¬ Q (ad.add (k * 9)).block := by rw [add_block]; exact hq ad (by omega) rfl
   replace hx0 := hnx.cell hbk hx0
   replace hx1 := hnx.cell (a := ⟨(ad.add (k * 9)).block, (ad.add (k * 9)).off + 1, none⟩) hbk hx1
   replace hx2 := hnx.cell (a := ⟨(ad.add (k * 9)).block, (ad.add (k * 9)).off + 2, none⟩) hbk hx2
   replace hx3 := hnx.cell (a := ⟨(ad.add (k * 9)).block, (ad.add (k * 9)).off + 3, none⟩) hbk hx3
   replace hx4 := hnx.cell (a := ⟨(ad.add (k * 9)).block, (ad.add (k * 9)).off + 4, none⟩) hbk hx4
   replace hx5 := hnx.cell (a := ⟨(ad.add (k * 9)).block, (ad.add (k * 9)).off + 5, none⟩) hbk hx5
   replace hx6 := hnx.cell (a := ⟨(ad.add (k * 9)).block, (ad.add (k * 9)).off + 6, none⟩) hbk hx6
   replace hx7 := hnx.cell (a := ⟨(ad.add (k * 9)).block, (ad.add (k * 9)).off + 7, none⟩) hbk hx7
   replace hx8 := hnx.cell (a := ⟨(ad.add (k * 9)).block, (ad.add (k * 9)).off + 8, none⟩) hbk hx8
   have hst1 := fun h => Lib.hid (ownTo_yes l k hlt h)
   have hst2 := fun h => Lib.hid (ownTo_no l k hlt h)
   have hls : (ownTo l k).length < l.length := Nat.lt_of_le_of_lt (ownTo_length l k) hlt
   have Hls := Lib.hid hls
   have hYx := fun pre W => hY pre ⟨k, hlt⟩ W
   have HYx := Lib.hid hYx
   clear hYx hls
   dsimp only at HYx
   generalize l[k] = x at hx0 hx1 hx2 hx3 hx4 hx5 hx6 hx7 hx8 hst1 hst2 HYx
   obtain ⟨⟨y0, y1, y2, y3, y4⟩, y5, y6, ⟨y7, y8⟩⟩ := x
   dsimp only at hx0 hx1 hx2 hx3 hx4 hx5 hx6 hx7 hx8 hst1 hst2
   have hB3 : Below wr.heap.size wr (wr.alloc (.cells #[.int .i64 y0, .int .i64 y1, .int .i64 y2, .int .i64 y3, .int .i64 y4, .int .i64 y5, .int .i64 y6, .int .i64 y7, .int .i64 y8] 53)) := (Below.refl _ wr).alloc (Nat.le_refl _) _
   by_cases hq1 : y4 = 1
   ·have hst := hst1 hq1
    have e1 : (y4 != 1) = false := by simp [hq1]
    clear hst1 hst2
    have hJd := hJ _ _ _ hJs hB3
    have hk3 := Lib.hid (hnx.trans (KpOut.of_below hB3))
    have HQ1 := Lib.hid hq1
    clear hq1
    gi_wp2
    obtain ⟨fn, tmps, assign, body, hy, hR⟩ := HYx.out _ _ hJd Hls.out
    dsimp only [ownV] at hy
    rw [hy]
    clear hJd hJs hnx hB3
    gi_wp2
    refine hR.mono ?_
    rintro e W3 (⟨rfl, hJ3, hk4⟩ | ⟨rfl, hJx3⟩)
    ·gi_wp2
     go_roundw
     case rel => exact ⟨k + 1, by omega, by go_num, by rw [hst.out]; exact hJ3, hk3.out.trans hk4⟩
     case measure => simp [intOf]; omega
    ·gi_wp2
     simp only [Exit.noGoto]
     refine bodyPost_ret (results_none rfl _ _ _) rfl ?_
     exact ⟨⟨_, rfl⟩, .inr ⟨_, hJx3⟩⟩
   ·have hst := hst2 hq1
    have e1 : (y4 != 1) = true := by simp [hq1]
    clear hst1 hst2
    have HQ1 := Lib.hid hq1
    clear hq1
    gi_wp2
    go_roundw
    case rel => exact ⟨k + 1, by omega, by go_num, by rw [hst.out]; exact hJ _ _ _ hJs hB3, hnx.trans (KpOut.of_below hB3)⟩
    case measure => simp [intOf]; omega
  ·obtain rfl : k = l.length := by omega
   gi_wp2
   simp only [Exit.noGoto]
   go_end0
   exact ⟨⟨_, rfl⟩, .inl hJs⟩
/-- The iterator: the needs of one column come, in their order. -/
theorem own_stops (n : Nat) (hn : 1 ≤ n) (Bw c : Nat) (Q : Nat → Prop) (A : Option Addr) (l : List S53) (hle : l.length ≤ 10000) (hq : ∀ ad, 0 < l.length → A = some ad → ¬ Q ad.block)
  (w : World) (hQ : ∀ b, Q b → b < w.heap.size) (hBw : w.cell? ⟨Bw, 0, none⟩ = some (.slice A l.length c)) (hr : Kd.C k53 w A l.length l) :
  SeqStopsK Fence.wide n Try.prog 33 #[.pointer (some ⟨Bw, 0, none⟩)] (fun x : Fin l.length => ownV l[x.1]) (KpOut Q) (fun xs => xs = ownTo l l.length) (fun _ => True) l.length w := fun lr J Jx W hW hJ _ hY h0 => by
 have hJ' : ∀ pre W1 W2, J pre W1 → Below W1.heap.size W1 W2 → J pre W2 := fun pre W1 W2 hj hB => hJ pre W1 W2 none hj (grown_of_below hB none) (fun _ e => by cases e)
 have hBw' : W.cell? ⟨Bw, 0, none⟩ = some (.slice A l.length c) := (hW.cell (p := ⟨Bw, 0, none⟩) (World.block_lt_of_cell? w _ hBw)).trans hBw
 refine (own_in n hn lr Bw c Q A l hle hq J Jx hY hJ' W hBw' (Kd.C_below hr hW) h0).mono ?_
 rintro e W' ⟨he, h | ⟨pre, h⟩⟩
 ·exact ⟨he, .inl ⟨_, rfl, h⟩⟩
 ·exact ⟨he, .inr ⟨pre, trivial, h⟩⟩
end

end Go.Proofs.Ytpoboffdlnnbmaa.PA
