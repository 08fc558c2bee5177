-- MADE by wip/tools/xprint.py of this repo: the kit's print.py, turned by this session, and texts by hand
import Derived.Test.YtpoboffdlnnbmaaPAx0
import Derived.Test.YtpoboffdlnnbmaaPAx5
import Derived.Test.YtpoboffdlnnbmaaPAx11
import Derived.Test.YtpoboffdlnnbmaaPAx13
import Derived.Test.YtpoboffdlnnbmaaPAx14
import Derived.Test.YtpoboffdlnnbmaaPAx15
import Derived.Test.YtpoboffdlnnbmaaPAx18
import Derived.Test.YtpoboffdlnnbmaaPAx19
import Derived.Test.YtpoboffdlnnbmaaTail
namespace Go.Proofs.Ytpoboffdlnnbmaa.PA
open Go.RowKit Go.Proofs.YtpoboffdlnnbmaaW.PrintWords Go.Proofs.YtpoboffdlnnbmaaW.PrintLast Go.Proofs.YtpoboffdlnnbmaaW.PrintMore
attribute [local go_sem] max2_int min2_int max_two min_two max_three min_three max_four min_four   -- for this text's walks alone
set_option linter.unusedVariables false
set_option linter.unusedSimpArgs false

-- BY HAND: bands3.tpl
-- MAKING columns_Bands
section
open Go.RowKit Go.Shelf Go.Proofs.YtpoboffdlnnbmaaW.PrintWords Go.Proofs.YtpoboffdlnnbmaaW.PrintLast Go.Proofs.YtpoboffdlnnbmaaW.PrintMore
attribute [local go_sem] max2_int min2_int max_two min_two max_three min_three max_four min_four
attribute [local go_sem] Oper.semAt_some
/-- The bands that the sizes leave, the first k of them. -/
def wantTo (l0 : List S44) : Nat → List S42
 | 0 => List.replicate l0.length ⟨0, 0, -1, -1⟩
 | k + 1 => (wantTo l0 k).set k (wantB ((wantTo l0 k)[k]?.getD z42) (l0[k]?.getD z44))
theorem wantTo_length (l0 : List S44) : ∀ k, (wantTo l0 k).length = l0.length
 | 0 => List.length_replicate
 | k + 1 => (List.length_set).trans (wantTo_length l0 k)
/-- A band, grown by a need of its own. -/
def growB (b : S42) (x : S53) : S42 := wantB ⟨mx b.f0 x.f1, mx b.f1 x.f2, b.f2, b.f3⟩ x.f3
def growOne (out : List S42) (x : S53) : List S42 := out.set x.f0.f2.toNat (growB (out[x.f0.f2.toNat]?.getD z42) x)
def growAll (xs : List S53) (out : List S42) : List S42 := xs.foldl growOne out
theorem growAll_length : ∀ (xs : List S53) (out : List S42), (growAll xs out).length = out.length
 | [], _ => rfl
 | x :: xs, out => (growAll_length xs (growOne out x)).trans List.length_set
theorem growAll_snoc (xs : List S53) (x : S53) (out : List S42) : growAll (xs ++ [x]) out = growOne (growAll xs out) x := by
 unfold growAll
 rw [List.foldl_append]
 rfl
def ownL (l1 : List S53) (xs : List (Fin l1.length)) : List S53 := xs.map (fun i => l1[i.1])
def settleTo (out : List S42) : Nat → List S42
 | 0 => out
 | k + 1 => (settleTo out k).set k (settleB ((settleTo out k)[k]?.getD z42))
theorem settleTo_length (out : List S42) : ∀ k, (settleTo out k).length = out.length
 | 0 => rfl
 | k + 1 => (List.length_set).trans (settleTo_length out k)
def bandsT (l0 : List S44) (l1 : List S53) : List S42 := settleTo (growAll (ownL l1 (ownTo l1 l1.length)) (wantTo l0 l0.length)) l0.length
theorem bandsT_length (l0 : List S44) (l1 : List S53) : (bandsT l0 l1).length = l0.length := by
 unfold bandsT
 rw [settleTo_length, growAll_length, wantTo_length]
def columns_Bands.f (l0 : List S44) (l1 : List S53) : Option (List S42 × Int) :=
 if l1.length ≤ 10000 then (if columns_Right.f l0 l1 = some true then some (bandsT l0 l1, 0) else some ([], 130)) else none
def BandsPost (w : World) (r1 : List S42) (r2 : Int) (e : Ending) (w' : World) : Prop := ∃ v0_ : Value, e = .returned (.tuple #[v0_, .int .i64 r2]) ∧ Kd.R k42 42 w' w.heap.size (fun _ => True) v0_ r1 ∧ Below w.heap.size w w'
/-- What the rounds keep. -/
structure BandsI (w : World) (M : Nat) (v : Value) (out : List S42) (W : World) : Prop where
 own : Kd.R k42 42 W w.heap.size (fun _ => True) v out
 box : Boxed W M 27 v
 below : Below w.heap.size w W
theorem BandsI.keep {w : World} {M : Nat} {v : Value} {out : List S42} {W W2 : World} {row : Option Nat} (h : BandsI w M v out W) (hg : W.grownBy W2 row) (hr : ∀ r, row = some r → w.heap.size ≤ r ∧ ∃ o : Obj, W.heap[r]? = some o ∧ o.isCells = false) : BandsI w M v out W2 := by
 have hne : ∀ (b : Nat) (cs : Array Value) (t : TypeId), W.heap[b]? = some (.cells cs t (0, 0)) → some b ≠ row := fun b cs t hb e => by
  obtain ⟨_, o, ho, hc⟩ := hr b e.symm
  rw [hb] at ho
  cases ho
  cases hc
 refine ⟨Kd.R_mono (Kd.R_step (Kd.R_bound h.own) (fun k hk hlt => ?_)) (fun _ _ => trivial), h.box.kept hg (hne _ _ _ h.box), h.below.grown hg h.below.size (fun k hk => (hr k hk).1)⟩
 obtain ⟨_, _, _, q, _, cells, hcell⟩ := hk
 exact hg.block k hlt (hne _ _ _ hcell)
theorem BandsI.step {w : World} {M : Nat} {v : Value} {out : List S42} {W W2 : World} (h : BandsI w M v out W) (hb : Below W.heap.size W W2) : BandsI w M v out W2 :=
 h.keep (grown_of_below hb none) (fun _ e => by cases e)
/-- A step that changes the row. -/
theorem BandsI.spread {w : World} {M : Nat} {G L c : Nat} {out out' : List S42} {W W2 : World} (h : BandsI w M (.slice (some ⟨G, 0, none⟩) L c) out W) (hR : Kd.R k42 42 W2 w.heap.size (fun _ => True) (.slice (some ⟨G, 0, none⟩) L c) out') (hg : W.grownBy W2 (some G)) :
  BandsI w M (.slice (some ⟨G, 0, none⟩) L c) out' W2 ∧ KeepsOthers W W2 ∧ KpOut (fun b => (Value.slice (some ⟨G, 0, none⟩) L c).ownBlock = some b) W W2 := by
 obtain ⟨cells, hcell⟩ := Kd.R_typed h.own G rfl
 have hne : ∀ {b : Nat} {t : TypeId} {v : Value}, Boxed W b t v → t ≠ 42 → some b ≠ some G := fun hb ht e => blk_ne hb hcell ht (by cases e; rfl)
 refine ⟨⟨hR, h.box.kept hg (hne h.box (by decide)), h.below.grown hg h.below.size (fun k hk => Kd.R_base h.own k hk)⟩, ?_, ?_⟩
 ·refine KeepsOthers.of_grownBy hg (fun j o hj ho => ?_)
  cases hj
  rw [hcell] at ho
  cases ho
  rfl
 ·exact KpOut.of_grownBy hg (fun r e => e)
set_option maxRecDepth 1000000 in
set_option maxHeartbeats 8000000 in
theorem bands_bad (A0 : Option Addr) (c0 : Nat) (l0 : List S44) (A1 : Option Addr) (c1 : Nat) (l1 : List S53) (w : World) (hr0 : Kd.C k44 w A0 l0.length l0) (hc0 : l0.length ≤ c0) (hr1 : Kd.C k53 w A1 l1.length l1) (hc1 : l1.length ≤ c1) (h : columns_Right.f l0 l1 = some false) :
  Calls Try.prog 6 #[.slice A0 l0.length c0, .slice A1 l1.length c1] w (BandsPost w [] 130) := by
 have HC := Lib.hid (columns_Right.calls A0 c0 l0 A1 c1 l1 false w hr0 hc0 hr1 hc1 h)
 clear hr0 hr1 h
 go_enter Try.func6, Try.ntmps6
 go_wp2_with (first | (go_at_call 12; refine (HC.out).mono ?_; rintro e w2 ⟨rfl, hb2⟩; have HB2 := Lib.hid hb2; clear hb2))
 go_ret2
 exact ⟨_, rfl, Kd.R_nil _ _ _ _ _, HB2.out⟩
theorem need_in {n : Nat} {l0 : List S44} {l1 : List S53} (hn : n = l0.length) (h : columns_Right.f l0 l1 = some true) (x : S53) (hx : x ∈ l1) : 0 ≤ x.f0.f2 ∧ x.f0.f2 < (n : Int) := by
 subst hn
 unfold columns_Right.f at h
 simp only [Option.some.injEq, Bool.and_eq_true, Bool.not_eq_true'] at h
 have h2 := List.any_eq_false.1 h.2 x hx
 have h3 : badNeed (l0.length : Int) x = false := by simpa using h2
 simp only [badNeed, badNeed9, needAt, outside, Bool.or_eq_false_iff, Bool.not_eq_false', Bool.and_eq_true, decide_eq_true_eq, decide_eq_false_iff_not] at h3
 obtain ⟨⟨⟨⟨⟨⟨a1, a2⟩, a3⟩, a4⟩, _⟩, ⟨⟨a5, a6⟩, ⟨a7, a8⟩⟩⟩, a9⟩ := h3
 omega
theorem blk_ltD {w : World} {b : Nat} {o : Obj} (h : w.heap[b]? = some o) : b < w.heap.size := by
 obtain ⟨h, _⟩ := Array.getElem?_eq_some_iff.1 h
 exact h
/-- What a good end leaves. -/
theorem BandsI.ends {w : World} {M : Nat} {v : Value} {out : List S42} {W : World} (h : BandsI w M v out W) {D : Nat} (hD : w.heap.size ≤ D) (hKD : W.heap[D]? = some (.deferred (some []))) :
  Kd.R k42 42 (W.putObj D (.deferred none)) w.heap.size (fun _ => True) v out ∧ Below w.heap.size w (W.putObj D (.deferred none)) := by
 refine ⟨Kd.R_mono (Kd.R_step (w := W) (Kd.R_tight2 rfl h.own) (fun k hk hlt => ?_)) (fun _ _ => trivial), h.below.trans (belowK_b (w := w) (Nat.le_refl _) _ D _ _ hD hKD rfl rfl)⟩
 obtain ⟨cells, hcell⟩ := Kd.R_typed h.own k hk.1.symm
 have k3 : D ≠ k := fun e => by
  rw [← e, hKD] at hcell
  cases hcell
 exact World.putObj_heap_other (Ne.symm k3)
/-- A region that draws its order, with stores at its end, in a round. -/
theorem start_round {P : Program} {Q : Exit → Act → World → Prop} {n' lr id n : Nat} {ops : Array Oper} {S : World → Prop} {ds : List Nat} {a : Act} {w : World} (l : Array Bool) (hm : P.follows .mixedOrders = true) (hnd : ops.all Go.Proofs.Ytpoboffdlnnbmaa.Round.noDefer = true) (hno : ¬ LetsOut Q) (hn : ops.size = n) (hl : Array.replicate n false = l) (hS : S w.drew)
  (h : S w.drew → wpAnyLast P .any ops Q S ds n l a w.drew) : (Code.region id ops true).wpIn (Fence.wide.inRound lr) n' P Q a w := by
 subst hn
 subst hl
 refine wpIn_region_any hm (Go.Proofs.Ytpoboffdlnnbmaa.Round.any_round hno (fun i o ho => ?_) _ _ _ _ (wpAny_of_last _ _ _ _ (h hS)))
 obtain ⟨hi, rfl⟩ := Array.getElem?_eq_some_iff.1 ho
 exact Array.all_eq_true.1 hnd i hi
set_option maxRecDepth 1000000 in
set_option maxHeartbeats 8000000 in
theorem bands_main (A0 : Option Addr) (c0 : Nat) (l0 : List S44) (A1 : Option Addr) (c1 : Nat) (l1 : List S53) (w : World) (hr0 : Kd.C k44 w A0 l0.length l0) (hc0 : l0.length ≤ c0) (hr1 : Kd.C k53 w A1 l1.length l1) (hc1 : l1.length ≤ c1) (hle1 : l1.length ≤ 10000) (h : columns_Right.f l0 l1 = some true) (out' : List S42) (hout : bandsT l0 l1 = out') :
  Calls Try.prog 6 #[.slice A0 l0.length c0, .slice A1 l1.length c1] w (BandsPost w out' 0) := by
 have hle0 : l0.length ≤ 10000 := by
  unfold columns_Right.f at h
  simp only [Option.some.injEq, Bool.and_eq_true, decide_eq_true_eq] at h
  exact h.1.1
 have Hno := Lib.hid (fun x hx => need_in (n := l0.length) rfl h x hx)
 have HC := Lib.hid (columns_Right.calls A0 c0 l0 A1 c1 l1 true w hr0 hc0 hr1 hc1 h)
 have Hr0 := Lib.hid hr0
 have Hr1 := Lib.hid hr1
 have Hout := Lib.hid hout
 clear hr0 hr1 h hout
 have Hle := Lib.hid hle0
 refine (callsIn_wide (n := 6)).1 ?_
 refine callsIn_of_wp_marks Try.func6 rfl trivial ?_ rfl
 rw [wpIn_wide]
 simp only [Try.ntmps6, List.size_toArray, List.length_cons, List.length_nil, Nat.reduceAdd, Nat.reduceSub, Array.replicate_succ, Array.replicate_zero, List.push_toArray, List.append_toArray, List.nil_append, List.cons_append]
 go_wp2_with (first | (go_at_call 12; refine (HC.out).mono ?_; rintro e w2 ⟨rfl, hb2⟩; have HB2 := Lib.hid hb2; clear hb2 HC) | (go_at_call 13; refine (repeatB ⟨0, 0, -1, -1⟩ l0.length Hle.out _ 1 (Nat.le_refl 1) _ ?hb1 ?hb2).mono ?_; (case hb1 => intro j u h_; rw [add_plain]; exact (blk_cell (heap_alloc_new w2 _) j).trans (by simpa [bandC] using h_)); (case hb2 => simp); rintro e w3 ⟨v3, rfl, hv3, hb3⟩; obtain ⟨A3, c3, rfl, hc3, _⟩ := Kd.R_reads hv3; have HV3 := Lib.hid hv3; have HB3 := Lib.hid hb3; clear hv3 hb3))
 rw [List.length_replicate] at hc3 HV3
 obtain ⟨M, hM⟩ : ∃ M, w3.heap.size = M := ⟨_, rfl⟩
 have hsz : (w2.alloc (.cells #[.int .i64 0, .int .i64 0, .int .i64 (-1), .int .i64 (-1)] 42)).heap.size = w2.heap.size + 1 := by simp
 have hB3 : Below w.heap.size w w3 := below_step (HB2.out.alloc HB2.out.size _) HB3.out
 have hI0 : BandsI w M (.slice A3 l0.length c3) (wantTo l0 0) (w3.alloc (.cells #[.slice A3 l0.length c3] 27)) :=
  ⟨Kd.R_alloc (Kd.R_lower HV3.out (by rw [hsz]; have := HB2.out.size; omega)) _, boxNew hM, hB3.alloc hB3.size _⟩
 have HI0 := Lib.hid hI0
 have hMw : w.heap.size ≤ M := by rw [← hM]; exact hB3.size
 have HMw := Lib.hid hMw
 rw [hM]
 generalize w3.alloc (.cells #[.slice A3 l0.length c3] 27) = Wl at HI0 ⊢
 clear hI0 hsz hB3 HV3 HB3 HB2 hMw hM
 go_loopw [24] (fun i wr => ∃ k : Nat, k ≤ l0.length ∧ i = .int .i64 k ∧ Hid (BandsI w M (.slice A3 l0.length c3) (wantTo l0 k) wr)) (fun i _ => l0.length - (intOf i).toNat)
 case atStart => exact ⟨0, Nat.zero_le _, rfl, HI0⟩
 case round =>
  obtain ⟨k, hk, rfl, hI⟩ := hrel
  by_cases hlt : k < l0.length
  ·have hltz : (k : Int) < (l0.length : Int) := by omega
   obtain ⟨ad, rfl, hx0, hx1⟩ := at_T44 Hr0.out (k : Int) (by omega) hltz
   rw [rd_size_nat l0 k hlt, Int.toNat_natCast] at hx0 hx1
   replace hx0 := (hI.out.below.cell (World.block_lt_of_cell? w _ hx0)).trans hx0
   replace hx1 := (hI.out.below.cell (World.block_lt_of_cell? w _ hx1)).trans hx1
   obtain ⟨G, cap, he, hbG, hGl, _⟩ := Kd.R_form hI.out.own (by rw [wantTo_length]; omega)
   simp only [Value.slice.injEq] at he
   obtain ⟨rfl, he2, rfl⟩ := he
   clear he2
   have hst : wantTo l0 (k + 1) = (wantTo l0 k).set k (wantB ((wantTo l0 k)[k]?.getD z42) l0[k]) := by
    show (wantTo l0 k).set k (wantB ((wantTo l0 k)[k]?.getD z42) (l0[k]?.getD z44)) = _
    rw [List.getElem?_eq_getElem hlt]
    rfl
   have hpl : k < (wantTo l0 k).length := by rw [wantTo_length]; exact hlt
   have hcall := fun (s : S44) W (hb : Below wr.heap.size wr W) => wants_calls G l0.length c3 k (wantTo l0 k) s W w.heap.size (fun _ => True) (hI.out.step hb).own hpl
   have HCw := Lib.hid hcall
   have Hst := Lib.hid hst
   have hxM := hI.out.box.cell
   clear hcall hst hpl hGl hbG
   generalize l0[k] = s at hx0 hx1 Hst
   obtain ⟨s0, s1⟩ := s
   dsimp only at hx0 hx1
   have hyM := (hI.out.box.alloc (.cells #[.int .i64 s0, .int .i64 s1] 44)).cell
   have hy8 := heap_alloc_new wr (.cells #[.int .i64 s0, .int .i64 s1] 44)
   have hy0 := (blk_cell hy8 0).trans rfl
   have hy1 := (blk_cell hy8 1).trans rfl
   clear hy8
   go_wp2
   refine region_tailN 4 (by kernel_rfl) (by kernel_rfl) (by kernel_rfl) ?_
   simp only [List.take_succ_cons, List.take_zero, List.drop_succ_cons, List.drop_zero]
   repeat (go_big_quiet_step (fail))
   refine wpQuiet_nil ?_
   go_wp2_with (first | (go_at_call 14; refine (HCw.out ⟨s0, s1⟩ _ (below_drew ((Below.refl _ wr).alloc (Nat.le_refl _) _))).mono ?_; rintro e w6 ⟨rfl, hR6, hg6⟩; have HI6 := Lib.hid ((hI.out.step (below_drew ((Below.refl _ wr).alloc (Nat.le_refl _) (.cells #[.int .i64 s0, .int .i64 s1] 44)))).spread hR6 hg6).1; clear hR6 hg6))
   go_roundw
   case rel => exact ⟨k + 1, by omega, by go_num, by rw [Hst.out]; exact HI6⟩
   case measure => simp [intOf]; omega
  ·obtain rfl : k = l0.length := by omega
   obtain ⟨B, hB⟩ : ∃ B, wr.heap.size = B := ⟨_, rfl⟩
   go_wp2_with (first | (go_at_call 15; refine (own_calls _ _ _ _).mono ?_; rintro e w' ⟨rfl, rfl⟩))
   have hIb : BandsI w M (.slice A3 l0.length c3) (wantTo l0 l0.length) (wr.alloc (.cells #[.slice A1 l1.length c1] 23)) := hI.out.step ((Below.refl _ wr).alloc (Nat.le_refl _) _)
   have bN : Boxed (wr.alloc (.cells #[.slice A1 l1.length c1] 23)) B 23 (.slice A1 l1.length c1) := boxNew hB
   have hMB : w.heap.size ≤ B := by rw [← hB]; exact hI.out.below.size
   generalize wr.alloc (.cells #[.slice A1 l1.length c1] 23) = Wb at hIb bN ⊢
   clear hI hB
   have hq : ∀ ad, 0 < l1.length → A1 = some ad → ¬ (Value.slice A3 l0.length c3).ownBlock = some ad.block := by
    rintro ad hpos rfl he
    have h1 := Kd.R_base hIb.own ad.block he
    obtain ⟨ad', e', hx0, _⟩ := at_T53 Hr1.out (0 : Int) (by omega) (by omega)
    cases e'
    have h2 := World.block_lt_of_cell? w _ hx0
    rw [add_block] at h2
    omega
   have hrN : Kd.C k53 Wb A1 l1.length l1 := Kd.C_below Hr1.out hIb.below
   have hltM := blk_lt hIb.box
   have hltB := blk_lt bN
   refine wpIn_wide.1 (wpIn_rangeFunc_ownH (F := Fence.wide) (n := 6) (w0 := Wb) rfl (by omega) (gf := 33) (lb := #[.pointer (some ⟨B, 0, none⟩)]) rfl trivial (enters_of Try.func33 (by kernel_rfl) rfl)
    (own_stops (6 - 1) (by omega) B c1 (fun b => (Value.slice A3 l0.length c3).ownBlock = some b) A1 l1 hle1 hq Wb (fun b hb => Kd.R_lt hIb.own b hb) bN.cell hrN)
    (fun h k => KpOut.trans h k) (fun W l o o' _ h hc _ => KpOut.putObj W l o o' h hc) (Below.refl _ _) (fun _ => rfl)
    (fun pre W => BandsI w M (.slice A3 l0.length c3) (growAll (ownL l1 pre) (wantTo l0 l0.length)) W)
    (fun c pre W => False)
    (fun pre X Y row h hg hr => h.keep hg (fun r e => ⟨Nat.le_trans hIb.below.size (hr r e).1, (hr r e).2⟩))
    (fun c pre X Y row h hg hr => h)
    hIb
    (fun x a' W => ∃ Bx, W.heap[Bx]? = some (.cells #[.int .i64 l1[x.1].f0.f0, .int .i64 l1[x.1].f0.f1, .int .i64 l1[x.1].f0.f2, .int .i64 l1[x.1].f0.f3, .int .i64 l1[x.1].f0.f4, .int .i64 l1[x.1].f1, .int .i64 l1[x.1].f2, .int .i64 l1[x.1].f3.f0, .int .i64 l1[x.1].f3.f1] 53 (0, 0)) ∧ a' = { tmps := List.toArray ((.slice A0 l0.length c0) :: (.slice A1 l1.length c1) :: undef :: undef :: (.slice none 0 0) :: (.int .i64 0) :: (.pointer (some ⟨M, 0, none⟩)) :: u7 :: u8 :: (.int .i64 l1[x.1].f0.f2) :: (.pointer (some ⟨Bx, 0, none⟩)) :: undef :: undef :: (.slice A0 l0.length c0) :: (.slice A1 l1.length c1) :: (.bool true) :: (.bool false) :: (.agg #[.int .i64 0, .int .i64 0, .int .i64 (-1), .int .i64 (-1)]) :: (.slice (some ⟨w2.heap.size, 0, none⟩) 1 1) :: (.slice A0 l0.length c0) :: (.int .i64 l0.length) :: (.slice A3 l0.length c3) :: (.slice A0 l0.length c0) :: (.int .i64 l0.length) :: (.int .i64 l0.length) :: (.bool false) :: u26 :: u27 :: u28 :: u29 :: u30 :: u31 :: u32 :: u33 :: u34 :: (.slice A1 l1.length c1) :: (.func (.func 33) #[] #[.pointer (some ⟨B, 0, none⟩)]) :: (.int .i64 l1[x.1].f0.f2) :: (.agg #[.int .i64 l1[x.1].f0.f0, .int .i64 l1[x.1].f0.f1, .int .i64 l1[x.1].f0.f2, .int .i64 l1[x.1].f0.f3, .int .i64 l1[x.1].f0.f4, .int .i64 l1[x.1].f1, .int .i64 l1[x.1].f2, .int .i64 l1[x.1].f3.f0, .int .i64 l1[x.1].f3.f1]) :: undef :: undef :: undef :: undef :: undef :: undef :: undef :: undef :: undef :: undef :: undef :: undef :: undef :: undef :: undef :: undef :: undef :: undef :: undef :: undef :: undef :: undef :: undef :: undef :: undef :: undef :: undef :: undef :: undef :: undef :: undef :: undef :: undef :: undef :: undef :: undef :: undef :: undef :: []), defers := [] })
    ?hAx ?assign ?body ?done ?stop)
   case hAx =>
    rintro x a' s X Y row ⟨Bx, h2, h3⟩ hg hr
    refine ⟨Bx, (hg.block Bx (blk_lt h2) (fun e => ?_)).trans h2, h3⟩
    obtain ⟨_, o, ho, hc⟩ := hr Bx e.symm
    rw [h2] at ho
    cases ho
    cases hc
   case assign =>
    rintro lr pre x W K h1 hK
    gi_wp2
    have hB := (Below.refl W.heap.size W).alloc (Nat.le_refl _) (.cells #[.int .i64 l1[x.1].f0.f0, .int .i64 l1[x.1].f0.f1, .int .i64 l1[x.1].f0.f2, .int .i64 l1[x.1].f0.f3, .int .i64 l1[x.1].f0.f4, .int .i64 l1[x.1].f1, .int .i64 l1[x.1].f2, .int .i64 l1[x.1].f3.f0, .int .i64 l1[x.1].f3.f1] 53)
    refine hK _ _ ((KeepsOthers.alloc _ _).from _) (KpOut.of_below hB) (h1.step hB) ⟨W.heap.size, heap_alloc_new W _, rfl⟩
   case body =>
    rintro lr pre x a' W hlr ⟨rec, hrec⟩ hI ⟨Bx, hx, rfl⟩ hlt
    obtain ⟨n1, n2⟩ := Hno.out l1[x.1] (List.getElem_mem x.2)
    have hsnoc : growAll (ownL l1 (pre ++ [x])) (wantTo l0 l0.length) = growOne (growAll (ownL l1 pre) (wantTo l0 l0.length)) l1[x.1] := by
     unfold ownL
     rw [List.map_append]
     exact growAll_snoc _ _ _
    have hlen : (growAll (ownL l1 pre) (wantTo l0 l0.length)).length = l0.length := by rw [growAll_length, wantTo_length]
    generalize growAll (ownL l1 pre) (wantTo l0 l0.length) = out at hsnoc hlen hI
    generalize l1[x.1] = y at n1 n2 hx hsnoc
    obtain ⟨⟨p0, p1, p2, p3, p4⟩, y5, y6, ⟨y7, y8⟩⟩ := y
    dsimp only at n1 n2 hx hsnoc ⊢
    obtain ⟨col, rfl⟩ := Int.eq_ofNat_of_zero_le n1
    obtain ⟨G, cap, he, hbG, hGl, _⟩ := Kd.R_form hI.own (by omega)
    simp only [Value.slice.injEq] at he
    obtain ⟨rfl, he2, rfl⟩ := he
    have hcol : col < out.length := by omega
    have hone : growOne out ⟨⟨p0, p1, (col : Int), p3, p4⟩, y5, y6, ⟨y7, y8⟩⟩ = out.set col (growB (out[col]?.getD z42) ⟨⟨p0, p1, (col : Int), p3, p4⟩, y5, y6, ⟨y7, y8⟩⟩) := by
     unfold growOne
     dsimp only
     rw [Int.toNat_natCast]
    rw [hone] at hsnoc
    clear hone
    have hI1 : BandsI w M (.slice (some ⟨G, 0, none⟩) l0.length c3) out W.drew := hI.step (below_drew (Below.refl _ _))
    obtain ⟨x0, x1, x2, x3⟩ := R_cellsB hI1.own col hcol
    generalize hb : out[col]?.getD z42 = b at x0 x1 x2 x3 hsnoc
    obtain ⟨f0, hR0, hG0⟩ := R_cellB hI1.own col hcol 0 (if b.f0 < y5 then y5 else b.f0) ⟨mx b.f0 y5, b.f1, b.f2, b.f3⟩ (by rw [hb]; rfl) (by omega)
    obtain ⟨f1, hR1, hG1⟩ := R_cellB hR0 col (by rw [List.length_set]; exact hcol) 1 (if b.f1 < y6 then y6 else b.f1) ⟨mx b.f0 y5, mx b.f1 y6, b.f2, b.f3⟩ (by rw [List.getElem?_set_self hcol, Option.getD_some]; rfl) (by omega)
    rw [List.set_set] at hR1
    rw [Nat.add_zero] at f0 f1 hR1 hG1
    have hx5 : W.drew.cell? ⟨Bx, 5, none⟩ = some (.int .i64 y5) := blk_cell (show W.drew.heap[Bx]? = _ from hx) 5
    have hx6 : W.drew.cell? ⟨Bx, 6, none⟩ = some (.int .i64 y6) := blk_cell (show W.drew.heap[Bx]? = _ from hx) 6
    obtain ⟨cells, hcell⟩ := Kd.R_typed hI1.own G rfl
    have hGB : some Bx ≠ some G := fun e => blk_ne (show W.drew.heap[Bx]? = _ from hx) hcell (by decide) (by cases e; rfl)
    obtain ⟨z0, z1, z2, z3⟩ := R_cellsB hR0 col (by rw [List.length_set]; exact hcol)
    rw [List.getElem?_set_self hcol, Option.getD_some] at z0 z1 z2 z3
    rw [Nat.add_zero] at z1
    have hz := (hG0.block Bx (blk_lt (show W.drew.heap[Bx]? = _ from hx)) hGB).trans (show W.drew.heap[Bx]? = _ from hx)
    rw [Nat.add_zero] at hz
    have hz5 : (W.drew.setCell ⟨G, col * 4, none⟩ (.int .i64 (if b.f0 < y5 then y5 else b.f0))).cell? ⟨Bx, 5, none⟩ = some (.int .i64 y5) := blk_cell hz 5
    have hz6 : (W.drew.setCell ⟨G, col * 4, none⟩ (.int .i64 (if b.f0 < y5 then y5 else b.f0))).cell? ⟨Bx, 6, none⟩ = some (.int .i64 y6) := blk_cell hz 6
    have HS := Lib.hid (And.intro z1 (And.intro hz5 hz6))
    clear z0 z1 z2 z3 hz hz5 hz6 hcell
    have hxM := hI.box.cell
    have HI := Lib.hid hI
    have HI1 := Lib.hid hI1
    have HR1 := Lib.hid hR1
    have HG1 := Lib.hid (World.grownBy.trans hG0 (by rw [Nat.add_zero]; exact hG1))
    have Hsn := Lib.hid hsnoc
    have Hlen := Lib.hid hlen
    have Hx := Lib.hid (show W.drew.heap[Bx]? = _ from hx)
    have Hb := Lib.hid hb
    have HGD := Lib.hid (grown_of_below (below_drew (Below.refl W.heap.size W)) (some G))
    clear hI hI1 hR0 hR1 hG0 hG1 hsnoc hlen hx he2 hb
    gi_wp2
    refine start_round (n := 22) (S := fun w' => w'.cell? ⟨G, col * 4 + 1, none⟩ = some (.int .i64 b.f1) ∧ w'.cell? ⟨Bx, 5, none⟩ = some (.int .i64 y5) ∧ w'.cell? ⟨Bx, 6, none⟩ = some (.int .i64 y6)) (ds := [21]) #[false, false, false, false, false, false, false, false, false, false, false, false, false, false, false, false, false, false, false, false, false, false] (by kernel_rfl) (by kernel_rfl) (by rintro ⟨_, _, h⟩; exact h) rfl rfl ⟨x1, hx5, hx6⟩ (fun hHeld => ?_)
    generalize W.drew = W1 at HS HI1 HR1 HG1 HGD Hx x0 x1 x2 x3 f0 f1 hx5 hx6 hHeld ⊢
    refine pure_ (i := 0) (N := some 42) (v := ?_) (a' := ?_) #[true, false, false, false, false, false, false, false, false, false, false, false, false, false, false, false, false, false, false, false, false, false] rfl rfl (by kernel_rfl) (fun _ _ _ h => h) (Or.inl ⟨by rfl, ?_⟩) ?_ ?_
    rotate_left
    ·intro w'
     go_simp
     with_reducible rfl
    rotate_left
    ·simp only [Act.put, List.setIfInBounds_toArray, List.set_cons_zero, List.set_cons_succ, i64_w, i32_w]
     rfl
    refine pure_ (i := 1) (N := some 43) (v := ?_) (a' := ?_) #[true, true, false, false, false, false, false, false, false, false, false, false, false, false, false, false, false, false, false, false, false, false] rfl rfl (by kernel_rfl) (fun _ _ _ h => h) (Or.inl ⟨by rfl, ?_⟩) ?_ ?_
    rotate_left
    ·intro w'
     go_simp
     with_reducible rfl
    rotate_left
    ·simp only [Act.put, List.setIfInBounds_toArray, List.set_cons_zero, List.set_cons_succ, i64_w, i32_w]
     rfl
    refine pure_ (i := 2) (N := some 44) (v := ?_) (a' := ?_) #[true, true, true, false, false, false, false, false, false, false, false, false, false, false, false, false, false, false, false, false, false, false] rfl rfl (by kernel_rfl) (fun _ _ _ h => h) (Or.inl ⟨by rfl, ?_⟩) ?_ ?_
    rotate_left
    ·intro w'
     go_simp
     with_reducible rfl
    rotate_left
    ·simp only [Act.put, List.setIfInBounds_toArray, List.set_cons_zero, List.set_cons_succ, i64_w, i32_w]
     rfl
    refine pure_ (i := 3) (N := some 45) (v := ?_) (a' := ?_) #[true, true, true, true, false, false, false, false, false, false, false, false, false, false, false, false, false, false, false, false, false, false] rfl rfl (by kernel_rfl) (fun _ _ _ h => h) (Or.inl ⟨by rfl, ?_⟩) ?_ ?_
    rotate_left
    ·intro w'
     go_simp
     with_reducible rfl
    rotate_left
    ·simp only [Act.put, List.setIfInBounds_toArray, List.set_cons_zero, List.set_cons_succ, i64_w, i32_w]
     rfl
    refine pure_ (i := 4) (N := some 46) (v := ?_) (a' := ?_) #[true, true, true, true, true, false, false, false, false, false, false, false, false, false, false, false, false, false, false, false, false, false] rfl rfl (by kernel_rfl) (fun _ _ _ h => h) (Or.inl ⟨by rfl, ?_⟩) ?_ ?_
    rotate_left
    ·intro w'
     go_simp
     with_reducible rfl
    rotate_left
    ·simp only [Act.put, List.setIfInBounds_toArray, List.set_cons_zero, List.set_cons_succ, i64_w, i32_w]
     rfl
    refine pure_ (i := 6) (N := some 48) (v := ?_) (a' := ?_) #[true, true, true, true, true, false, true, false, false, false, false, false, false, false, false, false, false, false, false, false, false, false] rfl rfl (by kernel_rfl) (fun _ _ _ h => h) (Or.inl ⟨by rfl, ?_⟩) ?_ ?_
    rotate_left
    ·intro w'
     go_simp
     with_reducible rfl
    rotate_left
    ·simp only [Act.put, List.setIfInBounds_toArray, List.set_cons_zero, List.set_cons_succ, i64_w, i32_w]
     rfl
    refine pure_ (i := 9) (N := some 51) (v := ?_) (a' := ?_) #[true, true, true, true, true, false, true, false, false, true, false, false, false, false, false, false, false, false, false, false, false, false] rfl rfl (by kernel_rfl) (fun _ _ _ h => h) (Or.inl ⟨by rfl, ?_⟩) ?_ ?_
    rotate_left
    ·intro w'
     go_simp
     with_reducible rfl
    rotate_left
    ·simp only [Act.put, List.setIfInBounds_toArray, List.set_cons_zero, List.set_cons_succ, i64_w, i32_w]
     rfl
    refine pure_ (i := 10) (N := some 52) (v := ?_) (a' := ?_) #[true, true, true, true, true, false, true, false, false, true, true, false, false, false, false, false, false, false, false, false, false, false] rfl rfl (by kernel_rfl) (fun _ _ _ h => h) (Or.inl ⟨by rfl, ?_⟩) ?_ ?_
    rotate_left
    ·intro w'
     go_simp
     with_reducible rfl
    rotate_left
    ·simp only [Act.put, List.setIfInBounds_toArray, List.set_cons_zero, List.set_cons_succ, i64_w, i32_w]
     rfl
    refine pure_ (i := 11) (N := some 53) (v := ?_) (a' := ?_) #[true, true, true, true, true, false, true, false, false, true, true, true, false, false, false, false, false, false, false, false, false, false] rfl rfl (by kernel_rfl) (fun _ _ _ h => h) (Or.inl ⟨by rfl, ?_⟩) ?_ ?_
    rotate_left
    ·intro w'
     go_simp
     with_reducible rfl
    rotate_left
    ·simp only [Act.put, List.setIfInBounds_toArray, List.set_cons_zero, List.set_cons_succ, i64_w, i32_w]
     rfl
    refine pure_ (i := 13) (N := some 55) (v := ?_) (a' := ?_) #[true, true, true, true, true, false, true, false, false, true, true, true, false, true, false, false, false, false, false, false, false, false] rfl rfl (by kernel_rfl) (fun _ _ _ h => h) (Or.inl ⟨by rfl, ?_⟩) ?_ ?_
    rotate_left
    ·intro w'
     go_simp
     with_reducible rfl
    rotate_left
    ·simp only [Act.put, List.setIfInBounds_toArray, List.set_cons_zero, List.set_cons_succ, i64_w, i32_w]
     rfl
    refine take_ (i := 7) (N := some 49) (v := ?_) (a' := ?_) #[true, true, true, true, true, false, true, true, false, true, true, true, false, true, false, false, false, false, false, false, false, false] rfl rfl (by kernel_rfl) (fun _ _ _ h => h) (Or.inl ⟨by rfl, ?_⟩) hHeld ?_ ?_
    rotate_left
    ·rintro w' ⟨s1, s2, s3⟩
     go_simp
     with_reducible rfl
    rotate_left
    ·simp only [Act.put, List.setIfInBounds_toArray, List.set_cons_zero, List.set_cons_succ, i64_w, i32_w]
     rfl
    refine take_ (i := 12) (N := some 54) (v := ?_) (a' := ?_) #[true, true, true, true, true, false, true, true, false, true, true, true, true, true, false, false, false, false, false, false, false, false] rfl rfl (by kernel_rfl) (fun _ _ _ h => h) (Or.inl ⟨by rfl, ?_⟩) hHeld ?_ ?_
    rotate_left
    ·rintro w' ⟨s1, s2, s3⟩
     go_simp
     with_reducible rfl
    rotate_left
    ·simp only [Act.put, List.setIfInBounds_toArray, List.set_cons_zero, List.set_cons_succ, i64_w, i32_w]
     rfl
    refine take_ (i := 14) (N := some 56) (v := ?_) (a' := ?_) #[true, true, true, true, true, false, true, true, false, true, true, true, true, true, true, false, false, false, false, false, false, false] rfl rfl (by kernel_rfl) (fun _ _ _ h => h) (Or.inl ⟨by rfl, ?_⟩) hHeld ?_ ?_
    rotate_left
    ·rintro w' ⟨s1, s2, s3⟩
     go_simp
     with_reducible rfl
    rotate_left
    ·simp only [Act.put, List.setIfInBounds_toArray, List.set_cons_zero, List.set_cons_succ, i64_w, i32_w]
     rfl
    refine pure_ (i := 15) (N := some 57) (v := ?_) (a' := ?_) #[true, true, true, true, true, false, true, true, false, true, true, true, true, true, true, true, false, false, false, false, false, false] rfl rfl (by kernel_rfl) (fun _ _ _ h => h) (Or.inl ⟨by rfl, ?_⟩) ?_ ?_
    rotate_left
    ·intro w'
     go_simp
     with_reducible rfl
    rotate_left
    ·simp only [Act.put, List.setIfInBounds_toArray, List.set_cons_zero, List.set_cons_succ, i64_w, i32_w]
     rfl
    refine one_ (i := 5) (N := some 47) #[true, true, true, true, true, true, true, true, false, true, true, true, true, true, true, true, false, false, false, false, false, false] rfl rfl (by kernel_rfl) (by decide) (fun K hK => ?_)
    refine value_ (w1 := ?_) (v := ?_) (by rfl) rfl ?_ ?_
    rotate_left 2
    ·go_simp
     constructor
     ·rfl
     ·rfl
    refine hK.out _ _ hHeld (fun hHeld => ?_)
    clear hK K
    refine norm_ (a' := ?_) ?_ ?_
    rotate_left
    ·show Act.put _ (some 47) _ = _
     simp only [Act.put, List.setIfInBounds_toArray, List.set_cons_zero, List.set_cons_succ, i64_w, i32_w]
     rfl
    refine pure_ (i := 8) (N := some 50) (v := ?_) (a' := ?_) #[true, true, true, true, true, true, true, true, true, true, true, true, true, true, true, true, false, false, false, false, false, false] rfl rfl (by kernel_rfl) (fun _ _ _ h => h) (Or.inl ⟨by rfl, ?_⟩) ?_ ?_
    rotate_left
    ·intro w'
     go_simp
     with_reducible rfl
    rotate_left
    ·simp only [Act.put, List.setIfInBounds_toArray, List.set_cons_zero, List.set_cons_succ, i64_w, i32_w]
     rfl
    refine pure_ (i := 16) (N := some 58) (v := ?_) (a' := ?_) #[true, true, true, true, true, true, true, true, true, true, true, true, true, true, true, true, true, false, false, false, false, false] rfl rfl (by kernel_rfl) (fun _ _ _ h => h) (Or.inl ⟨by rfl, ?_⟩) ?_ ?_
    rotate_left
    ·intro w'
     go_simp
     with_reducible rfl
    rotate_left
    ·simp only [Act.put, List.setIfInBounds_toArray, List.set_cons_zero, List.set_cons_succ, i64_w, i32_w]
     rfl
    refine pure_ (i := 17) (N := some 59) (v := ?_) (a' := ?_) #[true, true, true, true, true, true, true, true, true, true, true, true, true, true, true, true, true, true, false, false, false, false] rfl rfl (by kernel_rfl) (fun _ _ _ h => h) (Or.inl ⟨by rfl, ?_⟩) ?_ ?_
    rotate_left
    ·intro w'
     go_simp
     with_reducible rfl
    rotate_left
    ·simp only [Act.put, List.setIfInBounds_toArray, List.set_cons_zero, List.set_cons_succ, i64_w, i32_w]
     rfl
    refine one_ (i := 18) (N := none) #[true, true, true, true, true, true, true, true, true, true, true, true, true, true, true, true, true, true, true, false, false, false] rfl rfl (by kernel_rfl) (by decide) (fun K hK => ?_)
    refine skip_ (w1 := ?_) (by rfl) rfl ?_ ?_
    rotate_left
    ·go_simp
     rfl
    refine hK.out _ _ HS.out (fun hHeld => ?_)
    clear hK K
    refine pure_ (i := 19) (N := some 60) (v := ?_) (a' := ?_) #[true, true, true, true, true, true, true, true, true, true, true, true, true, true, true, true, true, true, true, true, false, false] rfl rfl (by kernel_rfl) (fun _ _ _ h => h) (Or.inl ⟨by rfl, ?_⟩) ?_ ?_
    rotate_left
    ·intro w'
     go_simp
     with_reducible rfl
    rotate_left
    ·simp only [Act.put, List.setIfInBounds_toArray, List.set_cons_zero, List.set_cons_succ, i64_w, i32_w]
     rfl
    refine pure_ (i := 20) (N := some 61) (v := ?_) (a' := ?_) #[true, true, true, true, true, true, true, true, true, true, true, true, true, true, true, true, true, true, true, true, true, false] rfl rfl (by kernel_rfl) (fun _ _ _ h => h) (Or.inl ⟨by rfl, ?_⟩) ?_ ?_
    rotate_left
    ·intro w'
     go_simp
     with_reducible rfl
    rotate_left
    ·simp only [Act.put, List.setIfInBounds_toArray, List.set_cons_zero, List.set_cons_succ, i64_w, i32_w]
     rfl
    refine last_ (i := 21) (N := none) #[true, true, true, true, true, true, true, true, true, true, true, true, true, true, true, true, true, true, true, true, true, true] rfl rfl (by kernel_rfl) (by decide) (fun K hK => ?_)
    refine skip_ (w1 := ?_) (by rfl) rfl ?_ ?_
    rotate_left
    ·go_simp
     rfl
    refine hK.out _ _ ?_
    clear hK K
    refine done_ (by kernel_rfl) ?_
    have HI2 := Lib.hid (HI1.out.spread HR1.out HG1.out)
    have hx' := (HG1.out.block Bx (blk_lt Hx.out) hGB).trans Hx.out
    have HGa := Lib.hid (World.grownBy.trans HGD.out HG1.out)
    have hcall := wants_calls G l0.length c3 col (out.set col ⟨mx b.f0 y5, mx b.f1 y6, b.f2, b.f3⟩) ⟨y7, y8⟩ _ w.heap.size (fun _ => True) HR1.out (by rw [List.length_set]; exact hcol)
    rw [List.getElem?_set_self hcol, Option.getD_some, List.set_set] at hcall
    have HC := Lib.hid hcall
    have hx7 := (blk_cell hx' 7).trans rfl
    have hx8 := (blk_cell hx' 8).trans rfl
    clear hcall hx' HI1 HS HG1 HGD HR1 x0 x1 x2 x3 f0 f1 hx5 hx6 hHeld
    generalize (W1.setCell ⟨G, col * 4, none⟩ (.int .i64 (if b.f0 < y5 then y5 else b.f0))).setCell ⟨G, col * 4 + 1, none⟩ (.int .i64 (if b.f1 < y6 then y6 else b.f1)) = W2 at HI2 HGa HC hx7 hx8 ⊢
    generalize (if b.f0 < y5 then y5 else b.f0) = m0
    generalize (if b.f1 < y6 then y6 else b.f1) = m1
    gi_wp2
    refine ⟨trivial, Go.Proofs.Ytpoboffdlnnbmaa.Round.calls_round (HC.out.mono ?_)⟩
    rintro e w6 ⟨rfl, hR6, hg6⟩
    obtain ⟨hI6, hK6, hP6⟩ := HI.out.spread hR6 (World.grownBy.trans HGa.out hg6)
    have HI6 := Lib.hid hI6
    have HK6 := Lib.hid hK6
    have HP6 := Lib.hid hP6
    clear hI6 hK6 hP6 hR6 hg6
    gi_wp2
    refine ⟨HK6.out.from _, HP6.out, ?_⟩
    show BandsI w M _ (growAll (ownL l1 (pre ++ [x])) (wantTo l0 l0.length)) w6
    rw [Hsn.out]
    exact HI6.out
   case done =>
    rintro D xs W hD rfl hI hKD
    have hset : settleTo (growAll (ownL l1 (ownTo l1 l1.length)) (wantTo l0 l0.length)) l0.length = out' := Hout.out
    have hlen : (growAll (ownL l1 (ownTo l1 l1.length)) (wantTo l0 l0.length)).length = l0.length := by rw [growAll_length, wantTo_length]
    generalize growAll (ownL l1 (ownTo l1 l1.length)) (wantTo l0 l0.length) = out at hset hlen hI
    have Hset := Lib.hid hset
    have Hlen := Lib.hid hlen
    have HD := Lib.hid (show w.heap.size ≤ D from Nat.le_trans hIb.below.size hD)
    have HI := Lib.hid (show BandsI w M (.slice A3 l0.length c3) (settleTo out 0) W ∧ W.heap[D]? = some (.deferred (some [])) from ⟨hI, hKD⟩)
    have hxM := hI.box.cell
    clear hset hlen hI hKD hD hIb bN hrN hltM hltB hq hMB
    generalize hDf : ({ target := Target.collected D, args := #[] } : Deferred) = Df
    go_wp2
    go_loopw [68] (fun i wr => ∃ k : Nat, k ≤ l0.length ∧ i = .int .i64 k ∧ Hid (BandsI w M (.slice A3 l0.length c3) (settleTo out k) wr ∧ wr.heap[D]? = some (.deferred (some [])))) (fun i _ => l0.length - (intOf i).toNat)
    case atStart => exact ⟨0, Nat.zero_le _, rfl, HI⟩
    case round =>
     obtain ⟨k, hk, rfl, hI⟩ := hrel
     by_cases hlt : k < l0.length
     ·have hltz : (k : Int) < (l0.length : Int) := by omega
      obtain ⟨G, cap, he, hbG, hGl, _⟩ := Kd.R_form hI.out.1.own (by rw [settleTo_length, Hlen.out]; omega)
      simp only [Value.slice.injEq] at he
      obtain ⟨rfl, he2, rfl⟩ := he
      clear he2
      have hcall := settles_calls G l0.length c3 k (settleTo out k) wr w.heap.size (fun _ => True) hI.out.1.own (by rw [settleTo_length, Hlen.out]; exact hlt)
      have HC := Lib.hid hcall
      have Hst := Lib.hid (show settleTo out (k + 1) = (settleTo out k).set k (settleB ((settleTo out k)[k]?.getD z42)) from rfl)
      have hxM := hI.out.1.box.cell
      clear hcall hGl hbG
      go_wp2_with (first | (go_at_call 16; refine (HC.out).mono ?_; rintro e w6 ⟨rfl, hR6, hg6⟩; obtain ⟨cells, hcell⟩ := Kd.R_typed hI.out.1.own G rfl; have HI6 := Lib.hid (And.intro (hI.out.1.spread hR6 hg6).1 ((hg6.block D (blk_ltD hI.out.2) (fun e => by cases e; rw [hI.out.2] at hcell; cases hcell)).trans hI.out.2)); clear hR6 hg6 hcell))
      go_roundw
      case rel => exact ⟨k + 1, by omega, by go_num, HI6⟩
      case measure => simp [intOf]; omega
     ·obtain rfl : k = l0.length := by omega
      have hxM := hI.out.1.box.cell
      obtain ⟨x6, x7⟩ := hI.out.1.ends HD.out hI.out.2
      have X6 := Lib.hid x6
      have X7 := Lib.hid x7
      clear x6 x7
      go_wp2
      refine ⟨by simp, .inl ⟨_, _, by rw [← hDf], run_takeDeferred hI.out.2, ?_⟩⟩
      refine ⟨.tuple #[.slice A3 l0.length c3, .int .i64 0], by simp [results, Try.results6, go_sem], ?_⟩
      rw [← Hset.out]
      exact ⟨_, rfl, X6.out, X7.out⟩
   case stop =>
    rintro D c pre W hD hpre h hKD
    exact h.elim
set_option maxRecDepth 1000000 in
theorem columns_Bands.calls (A0 : Option Addr) (c0 : Nat) (l0 : List S44) (A1 : Option Addr) (c1 : Nat) (l1 : List S53) (r1 : List S42) (r2 : Int) (w : World) (hr0 : Kd.C k44 w A0 l0.length l0) (hc0 : l0.length ≤ c0) (hr1 : Kd.C k53 w A1 l1.length l1) (hc1 : l1.length ≤ c1) (h : columns_Bands.f l0 l1 = some (r1, r2)) :
  Calls Try.prog 6 #[.slice A0 l0.length c0, .slice A1 l1.length c1] w fun e w' => ∃ v0_ : Value, e = .returned (.tuple #[v0_, .int .i64 r2]) ∧ Kd.R k42 42 w' w.heap.size (fun _ => True) v0_ r1 ∧ Below w.heap.size w w' := by
 suffices hs : Calls Try.prog 6 #[.slice A0 l0.length c0, .slice A1 l1.length c1] w (BandsPost w r1 r2) from hs
 unfold columns_Bands.f at h
 by_cases hle : l1.length ≤ 10000
 ·rw [if_pos hle] at h
  by_cases hok : columns_Right.f l0 l1 = some true
  ·rw [if_pos hok] at h
   simp only [Option.some.injEq, Prod.mk.injEq] at h
   obtain ⟨rfl, rfl⟩ := h
   exact bands_main A0 c0 l0 A1 c1 l1 w hr0 hc0 hr1 hc1 hle hok _ rfl
  ·rw [if_neg hok] at h
   simp only [Option.some.injEq, Prod.mk.injEq] at h
   obtain ⟨rfl, rfl⟩ := h
   obtain ⟨t, ht⟩ : ∃ t, columns_Right.f l0 l1 = some t := ⟨_, rfl⟩
   cases t with
   | false => exact bands_bad A0 c0 l0 A1 c1 l1 w hr0 hc0 hr1 hc1 ht
   | true => exact absurd ht hok
 ·rw [if_neg hle] at h
  cases h
end

end Go.Proofs.Ytpoboffdlnnbmaa.PA
