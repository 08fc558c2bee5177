-- MADE by wip/tools/xprint.py of this repo: the kit's print.py, turned by this session, and texts by hand
import Derived.Test.YtpoboffdlnnbmaaPAx0
import Derived.Test.YtpoboffdlnnbmaaPAx2
import Derived.Test.YtpoboffdlnnbmaaPAx3
import Derived.Test.YtpoboffdlnnbmaaPAx4
import Derived.Test.YtpoboffdlnnbmaaPAx17
namespace Go.Proofs.Ytpoboffdlnnbmaa.PA
open Go.RowKit Go.Proofs.YtpoboffdlnnbmaaW.PrintWords Go.Proofs.YtpoboffdlnnbmaaW.PrintLast Go.Proofs.YtpoboffdlnnbmaaW.PrintMore
attribute [local go_sem] max2_int min2_int max_two min_two max_three min_three max_four min_four   -- for this text's walks alone
set_option linter.unusedVariables false
set_option linter.unusedSimpArgs false

-- BY HAND: share.tpl
theorem shInfoI64 : (Try.prog.info? 2).map (fun i => (i.zero, i.size, i.bytes)) = some (some (.int .i64 0), 1, 8) := by kernel_rfl
open Go.RowKit Go.Shelf Go.Sort Go.Proofs.YtpoboffdlnnbmaaW.PrintWords Go.Proofs.YtpoboffdlnnbmaaW.PrintLast Go.Proofs.YtpoboffdlnnbmaaW.PrintMore
attribute [local go_sem] max2_int min2_int max_two min_two max_three min_three max_four min_four

def cmpI (x y : Int) : Int := if x < y then -1 else if x > y then 1 else 0
theorem cmpU_f (x y : Int) : cmp_Compare_uint64.f x y = some (cmpI x y) := by
 unfold cmp_Compare_uint64.f cmp_isNaN_uint64.f cmpI
 simp
 split <;> (try split) <;> rfl
theorem cmpI_f (x y : Int) : cmp_Compare_int.f x y = some (cmpI x y) := by
 unfold cmp_Compare_int.f cmp_isNaN_int.f cmpI
 simp
 split <;> (try split) <;> rfl
theorem or_f (x y : Int) : cmp_Or_int.f 4 [x, y] = some (if x = 0 then y else x) := by
 unfold cmp_Or_int.f
 by_cases hx : x = 0
 ·by_cases hy : y = 0
  ·simp [cmp_Or_int.l0, Go.Proofs.YtpoboffdlnnbmaaW.PrintWords.rd, hx, hy, wrap64]
  ·simp [cmp_Or_int.l0, Go.Proofs.YtpoboffdlnnbmaaW.PrintWords.rd, hx, hy, wrap64]
 ·simp [cmp_Or_int.l0, Go.Proofs.YtpoboffdlnnbmaaW.PrintWords.rd, hx, wrap64]

/-- How far a world is from W: so many draws, these blocks laid behind it. -/
def Grew (W w' : World) : Prop := ∃ p : GrownBy, w' = grow (W.drewN p.n) p.os
theorem Grew.refl (W : World) : Grew W W := ⟨⟨0, #[]⟩, by rw [grow_empty]; rfl⟩
theorem Grew.alloc {W w' : World} (h : Grew W w') (o : Obj) : Grew W (w'.alloc o) := by
 obtain ⟨⟨n, os⟩, rfl⟩ := h
 exact ⟨⟨n, os ++ #[o]⟩, by rw [alloc_eq_grow, grow_grow]⟩
theorem Grew.drewN {W w' : World} (h : Grew W w') (m : Nat) : Grew W (w'.drewN m) := by
 obtain ⟨⟨n, os⟩, rfl⟩ := h
 exact ⟨⟨n + m, os⟩, by show grow ((W.drewN n).drewN m) os = _; rw [World.drewN_drewN]⟩
theorem Grew.drew {W w' : World} (h : Grew W w') : Grew W w'.drew := h.drewN 1

theorem C_lit2 (X : World) (u v : Int) : Kd.C (Kd.int .i64) (X.alloc (.cells #[.int .i64 u, .int .i64 v] 3)) (some ⟨X.heap.size, 0, none⟩) 2 [u, v] :=
 (Kd.R_reads' (Kd.R_of_own (h1 := fun _ => rfl) (enc := Value.int .i64) (ok := fun _ => True) (own_lit X X.heap.size 3 .i64 [u, v] (Nat.le_refl _) (by simp)) (fun _ _ => trivial))).2.2

set_option maxHeartbeats 8000000 in
set_option maxRecDepth 100000 in
theorem share1 (a0 a1 a2 b0 b1 b2 : Int) (W : World) :
  Calls Try.prog 51 #[.agg #[.int .i64 a0, .int .i64 a1, .int .u64 a2], .agg #[.int .i64 b0, .int .i64 b1, .int .u64 b2]] W fun e w' => e = .returned (.int .i64 (if cmpI b2 a2 = 0 then cmpI a0 b0 else cmpI b2 a2)) ∧ Grew W w' := by
 have hU := Lib.hid (cmpU_f b2 a2)
 have hI := Lib.hid (cmpI_f a0 b0)
 have hO := Lib.hid (or_f (cmpI b2 a2) (cmpI a0 b0))
 generalize (if cmpI b2 a2 = 0 then cmpI a0 b0 else cmpI b2 a2) = r at hO ⊢
 generalize cmpI b2 a2 = u at hO hU
 generalize cmpI a0 b0 = v at hO hI
 have hor := fun X : World => cmp_Or_int.calls 4 (some ⟨X.heap.size, 0, none⟩) 2 [u, v] r (X.alloc (.cells #[.int .i64 u, .int .i64 v] 3)) (C_lit2 X u v) (Nat.le_refl _) hO.out
 go_enter Try.func51, Try.ntmps51
 go_wp2
 obtain ⟨W2, hW2⟩ : ∃ W2, (W.alloc (.cells #[.int .i64 a0, .int .i64 a1, .int .u64 a2] 95)).alloc (.cells #[.int .i64 b0, .int .i64 b1, .int .u64 b2] 95) = W2 := ⟨_, rfl⟩
 have hG : Grew W W2 := hW2 ▸ ((Grew.refl W).alloc _).alloc _
 obtain ⟨B, hB⟩ : ∃ B, W.heap.size = B := ⟨_, rfl⟩
 have k1 : W2.heap[B]? = some (.cells #[.int .i64 a0, .int .i64 a1, .int .u64 a2] 95 (0, 0)) := by rw [← hW2, ← hB]; exact blk_alloc (heap_alloc_new _ _) _
 have k2 : W2.heap[B + 1]? = some (.cells #[.int .i64 b0, .int .i64 b1, .int .u64 b2] 95 (0, 0)) := by
  rw [← hW2, ← hB]
  have h := heap_alloc_new (W.alloc (.cells #[.int .i64 a0, .int .i64 a1, .int .u64 a2] 95)) (.cells #[.int .i64 b0, .int .i64 b1, .int .u64 b2] 95)
  simpa using h
 have c0 := (blk_cell k1 0).trans rfl
 have c2 := (blk_cell k1 2).trans rfl
 have d0 := (blk_cell k2 0).trans rfl
 have d2 := (blk_cell k2 2).trans rfl
 rw [hB, hW2]
 clear hW2 k1 k2
 go_region_held3 (fun w' => w'.cell? ⟨B, 0, none⟩ = some (.int .i64 a0) ∧ w'.cell? ⟨B, 2, none⟩ = some (.int .u64 a2) ∧ w'.cell? ⟨B + 1, 0, none⟩ = some (.int .i64 b0) ∧ w'.cell? ⟨B + 1, 2, none⟩ = some (.int .u64 b2) ∧ Grew W w')
  (((try dsimp only); (try go_split_ands); (try refine ⟨?_, ?_, ?_, ?_, ?_⟩) <;> (first | (go_keep; done) | ((repeat (first | assumption | apply Grew.drew | apply Grew.drewN | apply Grew.alloc)); done))))
  (first | (go_at_call 53; refine (cmp_Compare_uint64.calls b2 a2 u _ hU.out).mono ?_; rintro e w' ⟨rfl, ⟨nd, rfl⟩⟩) | (go_at_call 40; refine (cmp_Compare_int.calls a0 b0 v _ hI.out).mono ?_; rintro e w' ⟨rfl, ⟨nd, rfl⟩⟩) | (go_at_call 52; refine (hor (W2.drewN _)).mono ?_; rintro e w' ⟨rfl, ⟨nd, rfl⟩⟩))
 go_wp2
 go_ret
 exact ⟨rfl, ((hG.drewN _).alloc _).drewN _⟩
end Go.Proofs.Ytpoboffdlnnbmaa.PA
namespace Go.Proofs
open Go.Shelf
def Try.sortPart_ren : Go.Shelf.Ren := ⟨fun | 6 => 50 | 15 => 69 | 14 => 68 | 28 => 83 | 29 => 84 | 20 => 75 | 21 => 76 | 22 => 77 | 23 => 78 | 24 => 79 | 25 => 80 | 26 => 81 | 27 => 82 | 46 => 86 | 47 => 87 | 48 => 88 | 49 => 89 | 50 => 90 | 57 => 92 | n => n, fun | 22 => 90 | 24 => 95 | 25 => 99 | 3 => 3 | 39 => 70 | 0 => 0 | 53 => 107 | 55 => 88 | 4 => 4 | 46 => 128 | 45 => 127 | 50 => 132 | 5 => 5 | 9 => 9 | 66 => 135 | 70 => 139 | 76 => 141 | 77 => 142 | n => n, fun | n => n⟩
theorem Try.sortPart : Go.Proofs.SlLaysF0.n6 Try.prog Try.sortPart_ren := {
 mixed := by kernel_rfl
 f6 := ⟨Try.f50.name, by decide, Try.func50.trans (congrArg some (by kernel_rfl))⟩
 f14 := ⟨Try.f68.name, by decide, Try.func68.trans (congrArg some (by kernel_rfl))⟩
 f15 := Try.func69.trans (congrArg some (by kernel_rfl))
 f20 := ⟨Try.f75.name, by decide, Try.func75.trans (congrArg some (by kernel_rfl))⟩
 f21 := ⟨Try.f76.name, by decide, Try.func76.trans (congrArg some (by kernel_rfl))⟩
 f22 := ⟨Try.f77.name, by decide, Try.func77.trans (congrArg some (by kernel_rfl))⟩
 f23 := ⟨Try.f78.name, by decide, Try.func78.trans (congrArg some (by kernel_rfl))⟩
 f24 := ⟨Try.f79.name, by decide, Try.func79.trans (congrArg some (by kernel_rfl))⟩
 f25 := ⟨Try.f80.name, by decide, Try.func80.trans (congrArg some (by kernel_rfl))⟩
 f26 := ⟨Try.f81.name, by decide, Try.func81.trans (congrArg some (by kernel_rfl))⟩
 f27 := ⟨Try.f82.name, by decide, Try.func82.trans (congrArg some (by kernel_rfl))⟩
 f28 := Try.func83.trans (congrArg some (by kernel_rfl))
 f29 := Try.func84.trans (congrArg some (by kernel_rfl))
 f46 := ⟨Try.f86.name, by decide, Try.func86.trans (congrArg some (by kernel_rfl))⟩
 f47 := Try.func87.trans (congrArg some (by kernel_rfl))
 f48 := Try.func88.trans (congrArg some (by kernel_rfl))
 f49 := ⟨Try.f89.name, by decide, Try.func89.trans (congrArg some (by kernel_rfl))⟩
 f50 := ⟨Try.f90.name, by decide, Try.func90.trans (congrArg some (by kernel_rfl))⟩
 f57 := ⟨Try.f92.name, by decide, Try.func92.trans (congrArg some (by kernel_rfl))⟩
 t0 := Try.underlying0
 a0 := Try.isAgg0
 z0 := Try.sizeOf0
 v0 := Try.zeroValue0
 t3 := Try.underlying3
 a3 := Try.isAgg3
 z3 := Try.sizeOf3
 v3 := Try.zeroValue3
 t4 := Try.underlying4
 a4 := Try.isAgg4
 z4 := Try.sizeOf4
 v4 := Try.zeroValue4
 t5 := Try.underlying5
 a5 := Try.isAgg5
 z5 := Try.sizeOf5
 v5 := Try.zeroValue5
 t9 := Try.underlying9
 a9 := Try.isAgg9
 z9 := Try.sizeOf9
 v9 := Try.zeroValue9
 t22 := Try.underlying90
 a22 := Try.isAgg90
 z22 := Try.sizeOf90
 v22 := Try.zeroValue90
 t25 := Try.underlying99
 a25 := Try.isAgg99
 z25 := Try.sizeOf99
 v25 := Try.zeroValue99
 t39 := Try.underlying70
 a39 := Try.isAgg70
 z39 := Try.sizeOf70
 v39 := Try.zeroValue70
 t45 := Try.underlying127
 a45 := Try.isAgg127
 z45 := Try.sizeOf127
 v45 := Try.zeroValue127
 t46 := Try.underlying128
 a46 := Try.isAgg128
 z46 := Try.sizeOf128
 v46 := Try.zeroValue128
 t50 := Try.underlying132
 a50 := Try.isAgg132
 z50 := Try.sizeOf132
 v50 := Try.zeroValue132
 t53 := Try.underlying107
 a53 := Try.isAgg107
 z53 := Try.sizeOf107
 v53 := Try.zeroValue107
 t55 := Try.underlying88
 a55 := Try.isAgg88
 z55 := Try.sizeOf88
 v55 := Try.zeroValue88
 t66 := Try.underlying135
 a66 := Try.isAgg135
 z66 := Try.sizeOf135
 v66 := Try.zeroValue135
 t70 := Try.underlying139
 a70 := Try.isAgg139
 z70 := Try.sizeOf139
 v70 := Try.zeroValue139
 t76 := Try.underlying141
 a76 := Try.isAgg141
 z76 := Try.sizeOf141
 v76 := Try.zeroValue141
 t77 := Try.underlying142
 a77 := Try.isAgg142
 z77 := Try.sizeOf142
 v77 := Try.zeroValue142 }
end Go.Proofs
namespace Go.Proofs.Ytpoboffdlnnbmaa.PA
open Go.RowKit Go.Proofs.YtpoboffdlnnbmaaW.PrintWords Go.Proofs.YtpoboffdlnnbmaaW.PrintLast Go.Proofs.YtpoboffdlnnbmaaW.PrintMore
attribute [local go_sem] max2_int min2_int max_two min_two max_three min_three max_four min_four
set_option linter.unusedVariables false
set_option linter.unusedSimpArgs false
open Go.RowKit Go.Shelf Go.Sort Go.Proofs.YtpoboffdlnnbmaaW.PrintWords Go.Proofs.YtpoboffdlnnbmaaW.PrintLast Go.Proofs.YtpoboffdlnnbmaaW.PrintMore

def partCell (q r : Nat → Int) (i : Nat) : List Value := [.int .i64 i, .int .i64 (wrap64 (q i)), .int .u64 (r i)]
/-- How two parts compare: what is left, the greater first; the place, the lower first. -/
def cmpP (r : Nat → Int) (i j : Nat) : Int := if cmpI (r j) (r i) = 0 then cmpI i j else cmpI (r j) (r i)
theorem ltP (r : Nat → Int) (i j : Nat) : ltOf (cmpP r) i j = decide (r j < r i ∨ (r i = r j ∧ i < j)) := by
 unfold ltOf cmpP cmpI
 by_cases h1 : r j < r i
 ·simp [h1]
 ·by_cases h2 : r i < r j
  ·have : ¬ r i = r j := by omega
   simp [h1, h2, this]
  ·have h3 : r i = r j := by omega
   by_cases h4 : i < j
   ·simp [h3, h4]
   ·by_cases h5 : j < i <;> simp [h3, h4, h5]
theorem swoP (r : Nat → Int) : SWO (ltOf (cmpP r)) where
 irrefl x := by rw [ltP]; simp
 trans x y z h1 h2 := by rw [ltP] at *; simp at *; omega
 ntrans x y z h1 h2 := by rw [ltP] at *; simp at *; omega
theorem sort_calls (q r : Nat → Int) (blk cap : Nat) (d : Array Nat) (w : World) (hH : HoldsK (partCell q r) 3 w blk 0 d) (hblk : blk < w.heap.size) (hsz : d.size < 4611686018427387904) :
  Calls Try.prog 50 #[.slice (some ⟨blk, 0, none⟩) d.size cap, .func (.func 51) #[] #[]] w fun e w' => e = .returned (.tuple #[]) ∧ ∃ n os, w' = sortWorldK (partCell q r) 3 w blk 0 n (pdq (ltOf (cmpP r)) d 0 d.size (Lib.bitLen d.size) true true) os := by
 have eg : ∀ args w, (callFunc 51 args).run Try.prog w = .ok (.enter 51 args) w := enters_of Try.func51 (by kernel_rfl) rfl
 have hcon := AnyQ.slices_SortFunc_eq Try.sortPart 3 Try.isAgg95 Try.sizeOf95 (partCell q r) (fun _ => rfl) (fun x v hv => by simp [partCell] at hv; rcases hv with rfl | rfl | rfl <;> rfl) (cmpP r) (swoP r) 51 #[] blk 0 cap d w eg
  (fun m os dk _ x y => (share1 _ _ _ _ _ _ _).mono fun e w' ⟨he, p, hp⟩ => ⟨he, p.n, p.os, hp⟩) hH hblk hsz
 exact hcon

section
open Go.RowKit Go.Shelf Go.Proofs.YtpoboffdlnnbmaaW.PrintWords Go.Proofs.YtpoboffdlnnbmaaW.PrintLast Go.Proofs.YtpoboffdlnnbmaaW.PrintMore
attribute [local go_sem] max2_int min2_int max_two min_two max_three min_three max_four min_four
attribute [local go_sem] Oper.semAt_some

theorem fixed_parts_calls (total : Int) (A : Option Addr) (n c : Nat) (sum : Int) (w : World) :
  Calls Try.prog 49 #[.int .i64 total, .slice A n c, .int .u64 sum] w fun e w' => e = .returned (.func (.func 66) #[] #[.pointer (some ⟨w.heap.size + 1, 0, none⟩), .pointer (some ⟨w.heap.size, 0, none⟩), .pointer (some ⟨w.heap.size + 1 + 1, 0, none⟩)]) ∧
   w' = ((w.alloc (.cells #[.int .i64 total] 2)).alloc (.cells #[.slice A n c] 34)).alloc (.cells #[.int .u64 sum] 88) := by
 go_enter Try.func49, Try.ntmps49
 go_wp2
 go_ret
 exact ⟨rfl, rfl⟩

/-- What part i is: its share, what is left of its division. -/
structure PartQ (total : Int) (l : List Int) (sum : Int) (q r : Nat → Int) : Prop where
 mul : ∀ i (h : i < l.length), ∃ hi lo k, bits_Mul64.f (IntKind.u64.wrap total) (IntKind.u64.wrap l[i]) = some (hi, lo) ∧ bits_Div64.f k hi lo sum = some (q i, r i)

abbrev partEnc (q r : Nat → Int) (i : Nat) : Array Value := #[.agg #[.int .i64 i, .int .i64 (wrap64 (q i)), .int .u64 (r i)]]

/-- Blocks of which P holds lie as they lay. -/
def KpOn (P : Nat → Prop) (A B : World) : Prop := A.heap.size ≤ B.heap.size ∧ ∀ b, P b → b < A.heap.size → B.heap[b]? = A.heap[b]?
theorem KpOn.refl (P : Nat → Prop) (A : World) : KpOn P A A := ⟨Nat.le_refl _, fun _ _ _ => rfl⟩
theorem KpOn.trans {P : Nat → Prop} {A B C : World} (h : KpOn P A B) (k : KpOn P B C) : KpOn P A C :=
 ⟨Nat.le_trans h.1 k.1, fun b hp hb => (k.2 b hp (Nat.lt_of_lt_of_le hb h.1)).trans (h.2 b hp hb)⟩
theorem KpOn.drewN {P : Nat → Prop} {A B : World} (h : KpOn P A B) (m : Nat) : KpOn P A (B.drewN m) := h
theorem KpOn.cell {P : Nat → Prop} {A B : World} (h : KpOn P A B) {a : Addr} {v : Value} (hp : P a.block) (hc : A.cell? a = some v) : B.cell? a = some v :=
 (World.cell?_of_block (h.2 a.block hp (World.block_lt_of_cell? A a hc))).trans hc
theorem KpOn.putObj {P : Nat → Prop} {n : Nat} (hP : ∀ b, P b → b < n) : ∀ (W : World) (l : Nat) (o o' : Obj), n ≤ l → W.heap[l]? = some o → o.isCells = false → o.isWalk = false → KpOn P W (W.putObj l o') :=
 fun W l o o' hl _ _ _ => ⟨by simp, fun b hb _ => World.putObj_heap_other (fun e => by have := hP b hb; omega)⟩
theorem KpOn.of_below {P : Nat → Prop} {A B : World} {n : Nat} (h : Below n A B) (hP : ∀ b, P b → b < n) : KpOn P A B := ⟨h.size, fun b hb _ => h.block b (hP b hb)⟩
theorem KpOn.of_grownBy {P : Nat → Prop} {A B : World} {row : Option Nat} (h : A.grownBy B row) (hP : ∀ r, row = some r → ¬ P r) : KpOn P A B := ⟨h.size, fun b hb hlt => h.block b hlt (fun e => hP b e.symm hb)⟩

theorem finTake_succ {n : Nat} (k : Nat) (h : k < n) : (List.finRange n).take (k + 1) = (List.finRange n).take k ++ [⟨k, h⟩] := by
 rw [List.take_succ_eq_append_getElem (by simpa using h)]
 simp

set_option maxRecDepth 100000 in
set_option maxHeartbeats 2000000 in
theorem parts1_in (F : Fence) (lift : ∀ {n : Nat} {f : FuncId} {args : Array Value} {w : World} {R : Ending → World → Prop}, Calls Try.prog f args w R → CallsIn F n Try.prog f args w R) (h44 : F.fn 66) (h36 : F.fn 55) (h37 : F.fn 67) (hro : F.round = none) (n : Nat) (hn : 1 ≤ n) (lr Bw Bt Bs c : Nat) (P : Nat → Prop) (ad : Addr) (total : Int) (l : List Int) (sum : Int) (q r : Nat → Int) (hq : PartQ total l sum q r) (hb : P ad.block) (hreach : l.length ≤ 10000)
  (J Jx : List (Fin l.length) → World → Prop)
  (hY : ∀ pre x W, J pre W → pre.length < l.length → YieldAt F (n - 1) Try.prog lr (partEnc q r x.1) W fun e W' =>
   (e = .returned (.bool true) ∧ J (pre ++ [x]) W' ∧ KpOn P W W') ∨ (e = .returned (.bool false) ∧ Jx (pre ++ [x]) W'))
  (hJ : ∀ pre W m, J pre W → J pre (W.drewN m))
  (W : World) (hBw : W.cell? ⟨Bw, 0, none⟩ = some (.slice (some ad) l.length c)) (hBt : W.cell? ⟨Bt, 0, none⟩ = some (.int .i64 total)) (hBs : W.cell? ⟨Bs, 0, none⟩ = some (.int .u64 sum))
  (hw1 : P Bw) (hw2 : P Bt) (hw3 : P Bs)
  (hc : ∀ j (h : j < l.length), W.cell? (ad.add j) = some (.int .i64 l[j])) (h0 : J [] W) :
  CallsIn F n Try.prog 66 #[.func (.yield lr) #[] #[], .pointer (some ⟨Bw, 0, none⟩), .pointer (some ⟨Bt, 0, none⟩), .pointer (some ⟨Bs, 0, none⟩)] W fun e W' => (∃ v, e = .returned v) ∧
   ((J (List.finRange l.length) W') ∨ (∃ pre, Jx pre W')) := by
 refine callsIn_of_wp Try.func66 rfl h44 ?_ hro
 simp only [Try.ntmps66, List.size_toArray, List.length_cons, List.length_nil, Nat.reduceAdd, Nat.reduceSub, Array.replicate_succ, Array.replicate_zero, List.push_toArray, List.append_toArray, List.nil_append, List.cons_append]
 gi_wp2
 gi_loopw [13] (fun i wr => ∃ k : Nat, k ≤ l.length ∧ i = .int .i64 k ∧ J ((List.finRange l.length).take k) wr ∧ KpOn P W wr) (fun i _ => l.length - (intOf i).toNat)
 case atStart => exact ⟨0, Nat.zero_le _, rfl, by simpa using h0, KpOn.refl _ _⟩
 case round =>
  obtain ⟨k, hk, rfl, hJs, hnx⟩ := hrel
  have hcx : ∀ h : k < l.length, wr.cell? (ad.add k) = some (.int .i64 l[k]) := fun h => hnx.cell (a := ad.add k) (by rw [add_block]; exact hb) (hc k h)
  have hBtx := hnx.cell (a := ⟨Bt, 0, none⟩) hw2 hBt
  have hBsx := hnx.cell (a := ⟨Bs, 0, none⟩) hw3 hBs
  by_cases hlt : k < l.length
  ·have hcx' := hcx hlt
   obtain ⟨hi, lo, kk, hm, hdv⟩ := hq.mul k hlt
   have Hm := Lib.hid hm
   have Hd := Lib.hid hdv
   clear hm hdv
   gi_wp2_with (first | (gi_at_call 55; refine (lift (bits_Mul64.calls _ _ hi lo _ Hm.out)).mono ?_; rintro e w' ⟨rfl, ⟨nd, rfl⟩⟩) | (gi_at_call 67; refine (lift (bits_Div64.calls kk hi lo sum (q k) (r k) _ Hd.out)).mono ?_; rintro e w' ⟨rfl, ⟨nd2, rfl⟩⟩))
   have hJd := hJ _ _ (nd + nd2) hJs
   have hnd : KpOn P W (wr.drewN (nd + nd2)) := hnx.drewN _
   obtain ⟨fn, tmps, assign, body, hy, hR⟩ := hY _ ⟨k, hlt⟩ (wr.drewN (nd + nd2)) hJd (by simp; omega)
   dsimp only [partEnc] at hy
   clear hJd hJs hnx Hm Hd hcx hcx'
   rw [hy]
   gi_wp2
   refine hR.mono ?_
   rintro e W3 (⟨rfl, hJ3, hk3⟩ | ⟨rfl, hJx3⟩)
   ·gi_wp2
    go_roundw
    case rel => exact ⟨k + 1, by omega, by simp, by rw [finTake_succ k hlt]; exact hJ3, hnd.trans hk3⟩
    case measure => simp [intOf]; omega
   ·gi_wp2
    refine bodyPost_ret (results_none rfl _ _ _) rfl ?_
    exact ⟨⟨_, rfl⟩, .inr ⟨_, hJx3⟩⟩
  ·obtain rfl : k = l.length := by omega
   gi_wp2
   go_end0
   exact ⟨⟨_, rfl⟩, .inl (by rwa [List.take_of_length_le (by simp)] at hJs)⟩

theorem parts_stops (F : Fence) (lift : ∀ {n : Nat} {f : FuncId} {args : Array Value} {w : World} {R : Ending → World → Prop}, Calls Try.prog f args w R → CallsIn F n Try.prog f args w R) (h44 : F.fn 66) (h36 : F.fn 55) (h37 : F.fn 67) (hro : F.round = none) (n : Nat) (hn : 1 ≤ n) (Bw Bt Bs c : Nat) (P : Nat → Prop) (ad : Addr) (total : Int) (l : List Int) (sum : Int) (q r : Nat → Int) (hq : PartQ total l sum q r) (hb : P ad.block) (hreach : l.length ≤ 10000)
  (w : World) (hBw : w.cell? ⟨Bw, 0, none⟩ = some (.slice (some ad) l.length c)) (hBt : w.cell? ⟨Bt, 0, none⟩ = some (.int .i64 total)) (hBs : w.cell? ⟨Bs, 0, none⟩ = some (.int .u64 sum))
  (hw1 : P Bw) (hw2 : P Bt) (hw3 : P Bs) (hP : ∀ b, P b → b < w.heap.size)
  (hc : ∀ j (h : j < l.length), w.cell? (ad.add j) = some (.int .i64 l[j])) :
  SeqStopsK F n Try.prog 66 #[.pointer (some ⟨Bw, 0, none⟩), .pointer (some ⟨Bt, 0, none⟩), .pointer (some ⟨Bs, 0, none⟩)] (fun x : Fin l.length => partEnc q r x.1) (KpOn P) (fun xs => xs = List.finRange l.length) (fun _ => True) l.length w := fun lr J Jx W hW hJ _ hY h0 => by
 have hW' : KpOn P w W := KpOn.of_below hW hP
 refine (parts1_in F lift h44 h36 h37 hro n hn lr Bw Bt Bs c P ad total l sum q r hq hb hreach J Jx hY (fun pre W1 m hj => hJ pre W1 _ none hj ⟨rfl, rfl, rfl, Nat.le_refl _, fun _ _ _ => rfl⟩ (fun _ e => by cases e)) W
  (hW'.cell (a := ⟨Bw, 0, none⟩) hw1 hBw) (hW'.cell (a := ⟨Bt, 0, none⟩) hw2 hBt) (hW'.cell (a := ⟨Bs, 0, none⟩) hw3 hBs) hw1 hw2 hw3 (fun j h => hW'.cell (a := ad.add j) (by rw [add_block]; exact hb) (hc j h)) h0).mono ?_
 rintro e W' ⟨he, h | ⟨pre, h⟩⟩
 ·exact ⟨he, .inl ⟨_, rfl, h⟩⟩
 ·exact ⟨he, .inr ⟨pre, trivial, h⟩⟩

def badW (n : Int) : Bool := decide (n < 0) || decide (n > 1125899906842623)
def sumU (l : List Int) : Int := l.foldl (fun s w => IntKind.u64.wrap (s + w)) 0
theorem sumU_take (l : List Int) (k : Nat) (h : k < l.length) : sumU (l.take (k + 1)) = IntKind.u64.wrap (sumU (l.take k) + l[k]) := by
 unfold sumU
 rw [List.take_succ_eq_append_getElem h, List.foldl_append]
 rfl
end

section
open Go.RowKit Go.Shelf Go.Proofs.YtpoboffdlnnbmaaW.PrintWords Go.Proofs.YtpoboffdlnnbmaaW.PrintLast Go.Proofs.YtpoboffdlnnbmaaW.PrintMore

def outL (n : Nat) (q : Nat → Int) (pre : List (Fin n)) : List Int := pre.foldl (fun o i => o.set i.1 (wrap64 (q i.1))) (List.replicate n 0)
def restL {n : Nat} (total : Int) (q : Nat → Int) (pre : List (Fin n)) : Int := pre.foldl (fun s i => wrap64 (s - wrap64 (q i.1))) total
def partCells {n : Nat} (q r : Nat → Int) (pre : List (Fin n)) : List Value := pre.flatMap (fun i => partCell q r i.1)
theorem outL_snoc (n : Nat) (q : Nat → Int) (pre : List (Fin n)) (x : Fin n) : outL n q (pre ++ [x]) = (outL n q pre).set x.1 (wrap64 (q x.1)) := by simp [outL]
theorem outL_length (n : Nat) (q : Nat → Int) (pre : List (Fin n)) : (outL n q pre).length = n := by
 suffices h : ∀ o : List Int, o.length = n → (pre.foldl (fun o i => o.set i.1 (wrap64 (q i.1))) o).length = n from h _ (by simp)
 induction pre with
 | nil => exact fun o h => h
 | cons a pre ih => exact fun o h => ih _ (by simpa using h)
theorem restL_snoc {n : Nat} (total : Int) (q : Nat → Int) (pre : List (Fin n)) (x : Fin n) : restL total q (pre ++ [x]) = wrap64 (restL total q pre - wrap64 (q x.1)) := by simp [restL]
theorem partCells_snoc {n : Nat} (q r : Nat → Int) (pre : List (Fin n)) (x : Fin n) : partCells q r (pre ++ [x]) = partCells q r pre ++ partCell q r x.1 := by simp [partCells]
theorem cells_new (W : World) (cs : List Value) (t : TypeId) : ∀ j u, cs[j]? = some u → (W.alloc (.cells cs.toArray t)).cell? (Addr.add ⟨W.heap.size, 0, none⟩ j) = some u := by
 intro j u h
 rw [add_plain, blk_cell (heap_alloc_new W _)]
 simpa using h
theorem boxNew {W : World} {n : Nat} {t : TypeId} {v : Value} (h : W.heap.size = n) : Boxed (W.alloc (.cells #[v] t)) n t v := h ▸ Boxed.new W t v

/-- The parts' places, sorted. -/
def sortedP (r : Nat → Int) (n : Nat) : Array Nat := Sort.pdq (ltOf (cmpP r)) (Array.range n) 0 n (Lib.bitLen n) true true
theorem sortedP_facts (r : Nat → Int) (n : Nat) : (sortedP r n).size = n ∧ (sortedP r n).toList.Perm (List.range n) ∧ Sort.SortedIn (ltOf (cmpP r)) 0 n (sortedP r n) := by
 have h := Sort.pdq_sorts (ltOf (cmpP r)) (swoP r) (Array.range n) 0 n (Lib.bitLen n) true true (Nat.zero_le _) (by simp) (Or.inl rfl)
 obtain ⟨⟨hs, _, hp⟩, h2⟩ := h
 have hs' : (sortedP r n).size = n := by unfold sortedP; simpa using hs
 refine ⟨hs', ?_, h2⟩
 have e1 : (sortedP r n).extract 0 n = sortedP r n := by
  have := Array.extract_size (xs := sortedP r n)
  rwa [hs'] at this
 have e2 : (Array.range n).extract 0 n = Array.range n := by
  have := Array.extract_size (xs := Array.range n)
  rwa [Array.size_range] at this
 have hp' : ((sortedP r n).extract 0 n).toList.Perm ((Array.range n).extract 0 n).toList := hp
 rw [e1, e2] at hp'
 simpa using hp'
theorem sortedP_lt (r : Nat → Int) (n i : Nat) (hi : i < n) : (sortedP r n)[i]! < n := by
 obtain ⟨hs, hp, _⟩ := sortedP_facts r n
 have hm : (sortedP r n)[i]! ∈ (sortedP r n).toList := by
  rw [getElem!_pos _ i (by omega)]
  exact Array.getElem_mem_toList (by omega)
 have := hp.mem_iff.1 hm
 simpa using this

/-- What is left over is given out, one each. -/
def giveStep (s : Int × List Int) (p : Nat) : Int × List Int := if s.1 = 0 then s else (wrap64 (s.1 - 1), s.2.set p (wrap64 (rd s.2 p + 1)))
def giveL (ps : List Nat) (s : Int × List Int) : Int × List Int := ps.foldl giveStep s
theorem giveL_zero (ps : List Nat) (s : Int × List Int) (h : s.1 = 0) : giveL ps s = s := by
 induction ps with
 | nil => rfl
 | cons p ps ih => show giveL ps (giveStep s p) = s; rw [show giveStep s p = s from if_pos h]; exact ih
theorem giveL_snoc (ps : List Nat) (p : Nat) (s : Int × List Int) : giveL (ps ++ [p]) s = giveStep (giveL ps s) p := by simp [giveL]
theorem giveL_append (ps qs : List Nat) (s : Int × List Int) : giveL (ps ++ qs) s = giveL qs (giveL ps s) := by simp [giveL]
theorem giveL_length (ps : List Nat) : ∀ s : Int × List Int, (giveL ps s).2.length = s.2.length := by
 induction ps with
 | nil => exact fun s => rfl
 | cons p ps ih =>
  intro s
  show (giveL ps (giveStep s p)).2.length = _
  rw [ih]
  unfold giveStep
  split <;> simp
/-- The sorted places' first k. -/
def firstP (r : Nat → Int) (n k : Nat) : List Nat := (sortedP r n).toList.take k
theorem firstP_succ (r : Nat → Int) (n k : Nat) (h : k < n) : firstP r n (k + 1) = firstP r n k ++ [(sortedP r n)[k]!] := by
 obtain ⟨hs, _, _⟩ := sortedP_facts r n
 unfold firstP
 rw [List.take_succ_eq_append_getElem (by simpa [hs] using h), getElem!_pos _ k (by omega)]
 simp
theorem giveL_all (r : Nat → Int) (n k : Nat) (s : Int × List Int) (h : (giveL (firstP r n k) s).1 = 0) : giveL (sortedP r n).toList s = giveL (firstP r n k) s := by
 conv => lhs; rw [← List.take_append_drop k (sortedP r n).toList, giveL_append]
 exact giveL_zero _ _ h
theorem giveL_done (r : Nat → Int) (n : Nat) (s : Int × List Int) : giveL (firstP r n n) s = giveL (sortedP r n).toList s := by
 obtain ⟨hs, _, _⟩ := sortedP_facts r n
 unfold firstP
 rw [List.take_of_length_le (by simp [hs])]

/-- The parts' cells lie as the sort asks. -/
theorem flat_at (q r : Nat → Int) : ∀ (L : List Nat) (t : Nat), t < L.length * 3 → (L.flatMap (partCell q r))[t]? = some ((partCell q r L[t / 3]!)[t % 3]!)
 | [], t, h => by simp at h
 | a :: L, t, h => by
  rw [List.flatMap_cons]
  by_cases ht : t < 3
  ·rw [List.getElem?_append_left (by simpa [partCell] using ht)]
   have e : t / 3 = 0 := by omega
   rw [e, show t % 3 = t by omega]
   rcases (show t = 0 ∨ t = 1 ∨ t = 2 by omega) with rfl | rfl | rfl <;> rfl
  ·rw [List.getElem?_append_right (by simp [partCell]; omega)]
   have hl : (partCell q r a).length = 3 := rfl
   rw [hl, flat_at q r L (t - 3) (by simp at h; omega)]
   have e1 : t / 3 = (t - 3) / 3 + 1 := by omega
   have e2 : t % 3 = (t - 3) % 3 := by omega
   rw [e1, e2]
   congr 2
theorem holds_parts {W : World} {base g cap n : Nat} (q r : Nat → Int) (h : W.ownsRow base 95 3 (.slice (some ⟨g, 0, none⟩) n cap) n (partCells q r (List.finRange n))) : Sort.HoldsK (partCell q r) 3 W g 0 (Array.range n) := by
 have hc := h.cells (g := g) rfl
 have hf : ∀ j, W.frozen? ⟨g, j, none⟩ = false := by
  rcases h.2 with ⟨h', _⟩ | ⟨g', cap', cur, h', _, hh, _⟩
  ·cases h'
  ·have : g = g' := by injection h' with h'; injection h' with h'; injection h' with h'
   subst this
   intro j
   simp [World.frozen?, hh]
 have e : partCells q r (List.finRange n) = (List.range n).flatMap (partCell q r) := by
  unfold partCells
  rw [show List.range n = (List.finRange n).map (fun i => i.1) by apply List.ext_getElem <;> simp, List.flatMap_map]
 intro j hj
 rw [Sort.size_flatK] at hj
 have hj' : j < n * 3 := by simpa using hj
 rw [e] at hc
 have h1 := hc j _ (flat_at q r (List.range n) j (by simpa using hj'))
 rw [add_plain] at h1
 rw [Nat.zero_add]
 refine ⟨?_, hf j⟩
 rw [h1, Sort.get_flatK _ _ _ _ hj]
 have e3 : (List.range n)[j / 3]! = (Array.range n)[j / 3]! := by
  have : j / 3 < n := by omega
  simp [this]
 rw [e3]
 rfl
/-- A block beside the sorted row, behind the sort. -/
theorem sortWorld_blk {W : World} {q r : Nat → Int} {g n : Nat} {d : Array Nat} {os : Array Obj} {b : Nat} {o : Obj} (h : W.heap[b]? = some o) (hne : b ≠ g) : (sortWorldK (partCell q r) 3 W g 0 n d os).heap[b]? = some o := by
 have hb := (Array.getElem?_eq_some_iff.1 h).1
 unfold sortWorldK
 have h1 : (Sort.putRowK (partCell q r) 3 (Sort.ahead W n) g 0 d).heap[b]? = some o := by
  unfold Sort.putRowK Sort.putRow Sort.mapBlock
  show (W.heap.modify g _)[b]? = some o
  rw [Array.getElem?_modify, if_neg (Ne.symm hne)]
  exact h
 show (_ ++ os)[b]? = some o
 rw [Array.getElem?_append_left (Array.getElem?_eq_some_iff.1 h1).1]
 exact h1
theorem own_move {w w1 : World} {base : Nat} {e : TypeId} {size n : Nat} {v : Value} {xs : List Value} (h : w.ownsRow base e size v n xs) (hm : ∀ k o, v.ownBlock = some k → w.heap[k]? = some o → w1.heap[k]? = some o) : w1.ownsRow base e size v n xs := by
 refine ⟨h.1, ?_⟩
 rcases h.2 with hn | ⟨g, cap, cur, rfl, hb, hgg, rest⟩
 ·exact .inl hn
 ·exact .inr ⟨g, cap, cur, rfl, hb, hm g _ rfl hgg, rest⟩
theorem sortWorld_below {W : World} {q r : Nat → Int} {g n n₀ : Nat} {d : Array Nat} {os : Array Obj} (h0 : n₀ ≤ g) (hg : g < W.heap.size) : Below n₀ W (sortWorldK (partCell q r) 3 W g 0 n d os) :=
 ⟨rfl, rfl, rfl, size_sortWorldK_c _ _ _ _ _ _ _ _, fun k hk => by
  have hk' : k < W.heap.size := by omega
  rw [Array.getElem?_eq_getElem hk']
  exact sortWorld_blk (Array.getElem?_eq_getElem hk') (by omega)⟩

/-- What the giving goes through: the places' cells, what is left, what each has. -/
structure Giv (q r : Nat → Int) (n₀ N g n D : Nat) (vL : Value) (w0 : World) (d : Array Nat) (s : Int × List Int) (W : World) : Prop where
 rest : Boxed W N 2 (.int .i64 s.1)
 out : Boxed W (N + 1 + 1) 34 (.slice (some ⟨N + 1, 0, none⟩) n n)
 own : W.ownsRow n₀ 2 1 (.slice (some ⟨N + 1, 0, none⟩) n n) n (nums .i64 s.2)
 parts : Sort.HoldsK (partCell q r) 3 W g 0 d
 blk : g < W.heap.size
 hd : W.heap[D]? = some (.deferred (some []))
 below : Below n₀ w0 W
theorem holds_move {q r : Nat → Int} {g : Nat} {d : Array Nat} {W W' : World} (h : Sort.HoldsK (partCell q r) 3 W g 0 d) (hg : W'.heap[g]? = W.heap[g]?) : Sort.HoldsK (partCell q r) 3 W' g 0 d := by
 intro j hj
 obtain ⟨h1, h2⟩ := h j hj
 exact ⟨(World.cell?_of_block (a := ⟨g, 0 + j, none⟩) hg).trans h1, (World.frozen?_of_block (a := ⟨g, 0 + j, none⟩) hg).trans h2⟩
theorem Giv.alloc {q r : Nat → Int} {n₀ N g n D : Nat} {vL : Value} {w0 W : World} {d : Array Nat} {s : Int × List Int} (h : Giv q r n₀ N g n D vL w0 d s W) (hn : n₀ ≤ W.heap.size) (o : Obj) : Giv q r n₀ N g n D vL w0 d s (W.alloc o) :=
 ⟨h.rest.alloc o, h.out.alloc o, h.own.alloc o, holds_move h.parts (Below.heap_alloc W o g h.blk), by have := h.blk; simp; omega, (Below.heap_alloc W o D (Array.getElem?_eq_some_iff.1 h.hd).1).trans h.hd, h.below.alloc hn o⟩
theorem Giv.give {q r : Nat → Int} {n₀ N g n D p : Nat} {vL : Value} {w0 W : World} {d : Array Nat} {o1 : Int} {o2 : List Int} (h : Giv q r n₀ N g n D vL w0 d (o1, o2) W) (hN : n₀ ≤ N) (hgN : g ≠ N) (hgO : g ≠ N + 1) (hDN : D ≠ N) (hDO : D ≠ N + 1) (x y : Int) :
  Giv q r n₀ N g n D vL w0 d (y, o2.set p x) ((W.setCell ⟨N + 1, p, none⟩ (.int .i64 x)).setCell ⟨N, 0, none⟩ (.int .i64 y)) := by
 have hs := own_store h.own (p : Int) x
 rw [Int.toNat_natCast] at hs
 have k1 : ∀ {b : Nat}, b ≠ N → b ≠ N + 1 → ((W.setCell ⟨N + 1, p, none⟩ (.int .i64 x)).setCell ⟨N, 0, none⟩ (.int .i64 y)).heap[b]? = W.heap[b]? := fun h1 h2 => (Below.heap_setCell _ ⟨N, 0, none⟩ _ _ h1).trans (Below.heap_setCell _ ⟨N + 1, p, none⟩ _ _ h2)
 have hr : Boxed (W.setCell ⟨N + 1, p, none⟩ (.int .i64 x)) N 2 (.int .i64 o1) := blk_far h.rest (by show N ≠ N + 1; omega) _
 refine ⟨hr.set _, (k1 (by omega) (by omega)).trans h.out, own_setCell hs.1 (by simp [Value.ownBlock]) _, holds_move h.parts (k1 hgN hgO), ?_, (k1 hDN hDO).trans h.hd, (h.below.setCell (p := ⟨N + 1, p, none⟩) (by show n₀ ≤ N + 1; omega) _).setCell (p := ⟨N, 0, none⟩) hN _⟩
 have := h.blk
 simpa using this
end

section
open Go.RowKit Go.Shelf Go.Proofs.YtpoboffdlnnbmaaW.PrintWords Go.Proofs.YtpoboffdlnnbmaaW.PrintLast Go.Proofs.YtpoboffdlnnbmaaW.PrintMore
attribute [local go_sem] max2_int min2_int max_two min_two max_three min_three max_four min_four
attribute [local go_sem] Oper.semAt_some


/-- What the parts have in the end. -/
def mainOut (total : Int) (n : Nat) (q r : Nat → Int) : List Int := (giveL (sortedP r n).toList (restL total q (List.finRange n), outL n q (List.finRange n))).2
theorem share_end {q r : Nat → Int} {N g n D : Nat} {vL : Value} {w X : World} {d : Array Nat} {s : Int × List Int} {out : List Int} (h : Giv q r w.heap.size N g n D vL w d s X) (ho : out = s.2) (hD : w.heap.size ≤ D) (hDN : D ≠ N + 1) :
  ∃ v, Ending.returned (.tuple #[.slice (some ⟨N + 1, 0, none⟩) n n, .int .i64 0]) = .returned (.tuple #[v, .int .i64 0]) ∧ Kd.R (Kd.int .i64) 2 (X.putObj D (.deferred none)) w.heap.size (fun _ => True) v out ∧ Below w.heap.size w (X.putObj D (.deferred none)) := by
 have hl : s.2.length = n := by have := h.own.1; simpa [nums] using this
 have ho' := ownsRow_putObj h.own (.deferred none) h.hd rfl
 refine ⟨_, rfl, Kd.R_of_own (h1 := fun _ => rfl) (enc := Value.int .i64) ?_ (fun _ _ => trivial), h.below.trans (belowK_b (w := w) (Nat.le_refl _) X D _ _ hD h.hd rfl rfl)⟩
 rw [ho, hl]
 exact ho'
theorem shInfoPart : (Try.prog.info? 95).map (fun i => (i.zero, i.size, i.bytes)) = some (some (.agg #[.int .i64 0, .int .i64 0, .int .u64 0]), 3, 24) := by kernel_rfl


/-- What a round's stores leave, world by world. -/
theorem share_body {total : Int} {l : List Int} {ad : Addr} {c : Nat} {S : Int} {q r : Nat → Int} {n₀ N Bx i : Nat} {R : Int} {O : List Int} {W w2 : World} {vL : Value} {g' cap' k : Nat} {cells : List Value}
  (hsz : n₀ ≤ W.heap.size) (hNw : n₀ ≤ N) (hBx : N + 7 ≤ Bx) (hi : i < l.length)
  (bR : Boxed W N 2 (.int .i64 R)) (b4 : Boxed W (N + 1 + 1 + 1 + 1) 2 (.int .i64 total)) (b5 : Boxed W (N + 1 + 1 + 1 + 1 + 1) 34 (.slice (some ad) l.length c)) (b6 : Boxed W (N + 1 + 1 + 1 + 1 + 1 + 1) 88 (.int .u64 S))
  (bO : Boxed W (N + 1 + 1) 34 (.slice (some ⟨N + 1, 0, none⟩) l.length l.length)) (rO : W.ownsRow n₀ 2 1 (.slice (some ⟨N + 1, 0, none⟩) l.length l.length) l.length (nums .i64 O))
  (bL : Boxed W (N + 1 + 1 + 1) 90 vL) (rL : W.ownsRow n₀ 95 3 vL k cells) (hx : W.heap[Bx]? = some (.cells (partCell q r i).toArray 95 (0, 0))) (hnB : some Bx ≠ vL.ownBlock)
  {tmp : Obj} (hown : w2.ownsRow n₀ 95 3 (.slice (some ⟨g', 0, none⟩) (k + 1) cap') (k + 1) (cells ++ partCell q r i)) (hgrow : (W.alloc tmp).grownBy w2 vL.ownBlock)
  (hr2 : (w2.setCell ⟨N + 1 + 1 + 1, 0, none⟩ (.slice (some ⟨g', 0, none⟩) (k + 1) cap')).ownsRow n₀ 95 3 (.slice (some ⟨g', 0, none⟩) (k + 1) cap') (k + 1) (cells ++ partCell q r i))
  (hk2 : KeepsOthers W (w2.setCell ⟨N + 1 + 1 + 1, 0, none⟩ (.slice (some ⟨g', 0, none⟩) (k + 1) cap')))
  (hv2 : Boxed (w2.setCell ⟨N + 1 + 1 + 1, 0, none⟩ (.slice (some ⟨g', 0, none⟩) (k + 1) cap')) (N + 1 + 1 + 1) 90 (.slice (some ⟨g', 0, none⟩) (k + 1) cap')) :
  let X := w2.setCell ⟨N + 1 + 1 + 1, 0, none⟩ (.slice (some ⟨g', 0, none⟩) (k + 1) cap')
  let Y := X.setCell ⟨N + 1, i, none⟩ (.int .i64 (wrap64 (q i)))
  let Z := fun R' : Int => Y.setCell ⟨N, 0, none⟩ (.int .i64 R')
  X.cell? ⟨N + 1 + 1, 0, none⟩ = some (.slice (some ⟨N + 1, 0, none⟩) l.length l.length) ∧ X.cell? ⟨Bx, 0, none⟩ = some (.int .i64 i) ∧ X.cell? ⟨Bx, 1, none⟩ = some (.int .i64 (wrap64 (q i))) ∧
  X.cell? ⟨N + 1, i, none⟩ = some (.int .i64 (rd O i)) ∧ X.frozen? ⟨N + 1, i, none⟩ = false ∧ Y.cell? ⟨N, 0, none⟩ = some (.int .i64 R) ∧ Y.cell? ⟨Bx, 1, none⟩ = some (.int .i64 (wrap64 (q i))) ∧ Y.frozen? ⟨N, 0, none⟩ = false ∧
  ∀ R', KeepsOthers W (Z R') ∧ KpOn (fun b => b < n₀ ∨ b = N + 1 + 1 + 1 + 1 ∨ b = N + 1 + 1 + 1 + 1 + 1 ∨ b = N + 1 + 1 + 1 + 1 + 1 + 1) W (Z R') ∧ Boxed (Z R') N 2 (.int .i64 R') ∧ Boxed (Z R') (N + 1 + 1 + 1 + 1) 2 (.int .i64 total) ∧ Boxed (Z R') (N + 1 + 1 + 1 + 1 + 1) 34 (.slice (some ad) l.length c) ∧ Boxed (Z R') (N + 1 + 1 + 1 + 1 + 1 + 1) 88 (.int .u64 S) ∧
   Boxed (Z R') (N + 1 + 1) 34 (.slice (some ⟨N + 1, 0, none⟩) l.length l.length) ∧ (Z R').ownsRow n₀ 2 1 (.slice (some ⟨N + 1, 0, none⟩) l.length l.length) l.length (nums .i64 (O.set i (wrap64 (q i)))) ∧
   Boxed (Z R') (N + 1 + 1 + 1) 90 (.slice (some ⟨g', 0, none⟩) (k + 1) cap') ∧ (Z R').ownsRow n₀ 95 3 (.slice (some ⟨g', 0, none⟩) (k + 1) cap') (k + 1) (cells ++ partCell q r i) ∧ Below n₀ W (Z R') := by
 intro X Y Z
 have kX : ∀ {B : Nat} {t : TypeId} {u : Value}, Boxed W B t u → t ≠ 95 → B ≠ N + 1 + 1 + 1 → Boxed X B t u := fun h ht hne => ((h.alloc tmp).kept hgrow (h.not_row ht rL)).other hne _
 have kY : ∀ {B : Nat} {t : TypeId} {u : Value}, Boxed X B t u → B ≠ N + 1 → Boxed Y B t u := fun h hne => blk_far h hne _
 have kZ : ∀ {B : Nat} {t : TypeId} {u : Value} (R' : Int), Boxed Y B t u → B ≠ N → Boxed (Z R') B t u := fun R' h hne => blk_far h hne _
 have bR2 := kX bR (by decide) (by omega)
 have b42 := kX b4 (by decide) (by omega)
 have b52 := kX b5 (by decide) (by omega)
 have b62 := kX b6 (by decide) (by omega)
 have bO2 := kX bO (by decide) (by omega)
 have hxX : X.heap[Bx]? = some (.cells (partCell q r i).toArray 95 (0, 0)) := blk_far (blk_grown ((Below.heap_alloc W tmp Bx (blk_lt hx)).trans hx) hgrow hnB) (by show Bx ≠ N + 1 + 1 + 1; omega) _
 have rO2 : X.ownsRow n₀ 2 1 (.slice (some ⟨N + 1, 0, none⟩) l.length l.length) l.length (nums .i64 O) := own_setCell (own_other (rO.alloc tmp) hgrow (own_type_ne rO rL (by decide))) (by simp [Value.ownBlock]; omega) _
 obtain ⟨hG, hGf⟩ := own_at rO2 (i : Int) (by omega) (by omega)
 rw [Int.toNat_natCast] at hG hGf
 have hxY : Y.heap[Bx]? = some (.cells (partCell q r i).toArray 95 (0, 0)) := blk_far hxX (by show Bx ≠ N + 1; omega) _
 have rO3 := own_store rO2 (i : Int) (wrap64 (q i))
 rw [Int.toNat_natCast] at rO3
 have bR3 := kY bR2 (by omega)
 have hLne : some (N + 1) ≠ (Value.slice (some ⟨g', 0, none⟩) (k + 1) cap').ownBlock := by
  rcases own_type_ne rO2 hr2 (by decide) with h | h
  ·simp [Value.ownBlock] at h
  ·exact h
 have hLn : some N ≠ (Value.slice (some ⟨g', 0, none⟩) (k + 1) cap').ownBlock := bR2.not_row (by decide) hr2
 have hKX : KpOn (fun b => b < n₀ ∨ b = N + 1 + 1 + 1 + 1 ∨ b = N + 1 + 1 + 1 + 1 + 1 ∨ b = N + 1 + 1 + 1 + 1 + 1 + 1) W X := by
  refine (((KpOn.of_grownBy (World.grownBy_alloc W tmp none) (fun r e => by cases e)).trans (KpOn.of_grownBy hgrow ?_))).trans (KpOn.of_grownBy (grownBy_setCell' w2 (N + 1 + 1 + 1) _) ?_)
  ·intro b hb hp
   rcases hp with hp | rfl | rfl | rfl
   ·have := (rL.lt b hb).1; omega
   ·exact b4.not_row (by decide) rL hb.symm
   ·exact b5.not_row (by decide) rL hb.symm
   ·exact b6.not_row (by decide) rL hb.symm
  ·intro b hb hp
   cases hb
   rcases hp with hp | hp | hp | hp <;> omega
 have hBX : Below n₀ W X := by
  refine ((((Below.refl n₀ W).alloc hsz tmp).grown hgrow (by simp; omega) fun j ej => (rL.lt j ej).1).setCell (p := ⟨N + 1 + 1 + 1, 0, none⟩) (by show n₀ ≤ N + 1 + 1 + 1; omega) _)
 refine ⟨bO2.cell, (blk_cell hxX 0).trans rfl, (blk_cell hxX 1).trans rfl, hG, hGf, bR3.cell, (blk_cell hxY 1).trans rfl, bR3.frozen, fun R' => ⟨?_, ?_, bR3.set _, kZ R' (kY b42 (by omega)) (by omega), kZ R' (kY b52 (by omega)) (by omega), kZ R' (kY b62 (by omega)) (by omega), kZ R' (kY bO2 (by omega)) (by omega), own_setCell rO3.1 (by simp [Value.ownBlock]) _, kZ R' (kY hv2 (by omega)) (by omega), own_setCell (own_setCell hr2 hLne _) hLn _, ?_⟩⟩
 ·exact (hk2.trans (KeepsOthers.setCell _ _ _)).trans (KeepsOthers.setCell _ _ _)
 ·refine (hKX.trans (B := X) ⟨Nat.le_of_eq (by simp [Y]), fun b hp _ => Below.heap_setCell _ _ _ b (by rcases hp with hp | hp | hp | hp <;> (show b ≠ N + 1; omega))⟩ : KpOn _ W Y).trans ⟨Nat.le_of_eq (by simp [Z]), fun b hp _ => Below.heap_setCell _ _ _ b (by rcases hp with hp | hp | hp | hp <;> (show b ≠ N; omega))⟩
 ·exact (hBX.setCell (p := ⟨N + 1, i, none⟩) (by show n₀ ≤ N + 1; omega) _).setCell (p := ⟨N, 0, none⟩) hNw _

set_option maxRecDepth 100000 in
set_option maxHeartbeats 4000000 in
theorem share_main (total : Int) (l : List Int) (ad : Addr) (c : Nat) (w : World) (hlen : l.length ≤ 10000) (hpos : 0 < l.length) (hc : l.length ≤ c)
  (hr : ∀ j (h : j < l.length), w.cell? (ad.add j) = some (.int .i64 l[j])) (had : ad.block < w.heap.size)
  (hmay : fixed_may.f total l.length = some true) (hok : ∀ i (h : i < l.length), 0 ≤ l[i] ∧ l[i] ≤ 1125899906842623) (hs : sumU l ≠ 0) (q r : Nat → Int) (hq : PartQ total l (sumU l) q r) :
  Calls Try.prog 22 #[.int .i64 total, .slice (some ad) l.length c] w fun e w' => ∃ v, e = .returned (.tuple #[v, .int .i64 0]) ∧ Kd.R (Kd.int .i64) 2 w' w.heap.size (fun _ => True) v (mainOut total l.length q r) ∧ Below w.heap.size w w' := by
 refine (callsIn_wide (n := 6)).1 ?_
 refine callsIn_of_wp_marks Try.func22 rfl trivial ?_ rfl
 rw [wpIn_wide]
 simp only [Try.ntmps22, List.size_toArray, List.length_cons, List.length_nil, Nat.reduceAdd, Nat.reduceSub, Array.replicate_succ, Array.replicate_zero, List.push_toArray, List.append_toArray, List.nil_append, List.cons_append]
 have Hm := Lib.hid hmay
 have Hs := Lib.hid hs
 have Hpos := Lib.hid hpos
 have Hr := Lib.hid hr
 have Hok := Lib.hid hok
 clear hmay hs hpos hr hok
 go_wp2
 go_step3
 go_wp2_with (go_at_call 47; refine (fixed_may.calls _ _ true _ Hm.out).mono ?_; rintro e w' ⟨rfl, ⟨nd, rfl⟩⟩)
 obtain ⟨w1, hw1⟩ : ∃ w1, w.drewN nd = w1 := ⟨_, rfl⟩
 have HB1 := Lib.hid (show Below w.heap.size w w1 from hw1 ▸ pw_below_drewN (Below.refl _ _) _)
 have Hr1 : Hid (∀ j (h : j < l.length), w1.cell? (ad.add j) = some (.int .i64 l[j])) := Lib.hid (fun j h => hw1 ▸ Hr.out j h)
 have had1 : ad.block < w1.heap.size := by rw [← hw1]; exact had
 rw [hw1]
 clear hw1
 go_loop [6, 22] (fun s i => ∃ k : Nat, k ≤ l.length ∧ i = .int .i64 k ∧ s = .int .u64 (sumU (l.take k))) (fun _ i => l.length - (intOf i).toNat)
 case atStart => exact ⟨0, Nat.zero_le _, rfl, rfl⟩
 case round =>
  obtain ⟨k, hk, rfl, rfl⟩ := hrel
  by_cases hlt : k < l.length
  ·have hcx := Hr1.out k hlt
   obtain ⟨hk1, hk2⟩ := Hok.out k hlt
   have hst := Lib.hid (sumU_take l k hlt)
   go_wp2
   go_round
   case rel => exact ⟨k + 1, by omega, by go_num, by rw [hst.out]⟩
   case measure => simp [intOf]; omega
  ·obtain rfl : k = l.length := by omega
   have hS0 : (sumU l == 0) = false := beq_eq_false_iff_ne.mpr Hs.out
   have hmk := print_make (P := Try.prog) 34 2 .i64 8 Try.underlying34 shInfoI64 (by decide) l.length (by omega)
   go_wp2_with (first | (go_at_call 49; refine (fixed_parts_calls _ _ _ _ _ _).mono ?_; rintro e w' ⟨rfl, rfl⟩))
   obtain ⟨N, hN⟩ : ∃ N, w1.heap.size = N := ⟨_, rfl⟩
   have hNw : w.heap.size ≤ N := hN ▸ HB1.out.size
   rw [hN]
   obtain ⟨W0, hW0⟩ : ∃ W0, ((((((w1.alloc (Obj.cells #[Value.int IntKind.i64 total] 2)).alloc (Obj.cells (madeCells #[Value.int IntKind.i64 0] l.length) 2)).alloc (Obj.cells #[Value.slice (some { block := N + 1, off := 0 }) l.length l.length] 34)).alloc (Obj.cells #[Value.slice none 0 0] 90)).alloc (Obj.cells #[Value.int IntKind.i64 total] 2)).alloc (Obj.cells #[Value.slice (some ad) l.length c] 34)).alloc (Obj.cells #[Value.int IntKind.u64 (sumU l)] 88) = W0 := ⟨_, rfl⟩
   have hsz : W0.heap.size = N + 7 := by rw [← hW0]; simp [hN]
   have bR : Boxed W0 N 2 (.int .i64 total) := by rw [← hW0]; exact ((((((boxNew hN).alloc _).alloc _).alloc _).alloc _).alloc _).alloc _
   have bO : Boxed W0 (N + 1 + 1) 34 (.slice (some ⟨N + 1, 0, none⟩) l.length l.length) := by rw [← hW0]; exact ((((boxNew (by simp [hN])).alloc _).alloc _).alloc _).alloc _
   have bL : Boxed W0 (N + 1 + 1 + 1) 90 (.slice none 0 0) := by rw [← hW0]; exact (((boxNew (by simp [hN])).alloc _).alloc _).alloc _
   have b4 : Boxed W0 (N + 1 + 1 + 1 + 1) 2 (.int .i64 total) := by rw [← hW0]; exact ((boxNew (by simp [hN])).alloc _).alloc _
   have b5 : Boxed W0 (N + 1 + 1 + 1 + 1 + 1) 34 (.slice (some ad) l.length c) := by rw [← hW0]; exact (boxNew (by simp [hN])).alloc _
   have b6 : Boxed W0 (N + 1 + 1 + 1 + 1 + 1 + 1) 88 (.int .u64 (sumU l)) := by rw [← hW0]; exact boxNew (by simp [hN])
   have rO : W0.ownsRow w.heap.size 2 1 (.slice (some ⟨N + 1, 0, none⟩) l.length l.length) l.length (nums .i64 (outL l.length q [])) := by
    rw [← hW0]
    have h := own_made (w1.alloc (Obj.cells #[Value.int IntKind.i64 total] 2)) w.heap.size 2 .i64 l.length (by simp [hN]; omega) (by omega)
    rw [show (w1.alloc (Obj.cells #[Value.int IntKind.i64 total] 2)).heap.size = N + 1 by simp [hN]] at h
    exact ((((h.alloc _).alloc _).alloc _).alloc _).alloc _
   have hB0 : Below w.heap.size w W0 := by
    rw [← hW0]
    exact (((((((HB1.out.alloc (by simp [hN]; omega) _).alloc (by simp [hN]; omega) _).alloc (by simp [hN]; omega) _).alloc (by simp [hN]; omega) _).alloc (by simp [hN]; omega) _).alloc (by simp [hN]; omega) _).alloc (by simp [hN]; omega) _)
   have hrd : ∀ j (h : j < l.length), W0.cell? (ad.add j) = some (.int .i64 l[j]) := fun j h => (hB0.cell (p := ad.add j) (by rw [add_block]; exact had)).trans (Hr.out j h)
   rw [hW0]
   clear hW0 hmk Hr1 hlt hk hS0
   refine wpIn_wide.1 (wpIn_rangeFunc_ownH (F := Fence.wide) (n := 6) (w0 := W0) rfl (by omega) (gf := 66) (lb := #[.pointer (some ⟨N + 1 + 1 + 1 + 1 + 1, 0, none⟩), .pointer (some ⟨N + 1 + 1 + 1 + 1, 0, none⟩), .pointer (some ⟨N + 1 + 1 + 1 + 1 + 1 + 1, 0, none⟩)]) rfl trivial (enters_of Try.func66 (by kernel_rfl) rfl)
    (parts_stops Fence.wide (fun h => callsIn_wide.2 h) trivial trivial trivial rfl (6 - 1) (by omega) (N + 1 + 1 + 1 + 1 + 1) (N + 1 + 1 + 1 + 1) (N + 1 + 1 + 1 + 1 + 1 + 1) c (fun b => b < w.heap.size ∨ b = N + 1 + 1 + 1 + 1 ∨ b = N + 1 + 1 + 1 + 1 + 1 ∨ b = N + 1 + 1 + 1 + 1 + 1 + 1) ad total l (sumU l) q r hq (.inl had) hlen W0 b5.cell b4.cell b6.cell (by simp) (by simp) (by simp) (by omega) hrd)
    (fun h k => KpOn.trans h k) (KpOn.putObj (by omega)) (Below.refl _ _) (fun _ => rfl)
    (fun pre W => ((Boxed W N 2 (.int .i64 (restL total q pre)) ∧ (Boxed W (N + 1 + 1 + 1 + 1) 2 (.int .i64 total) ∧ Boxed W (N + 1 + 1 + 1 + 1 + 1) 34 (.slice (some ad) l.length c) ∧ Boxed W (N + 1 + 1 + 1 + 1 + 1 + 1) 88 (.int .u64 (sumU l)))) ∧
     (∃ v, Boxed W (N + 1 + 1) 34 v ∧ W.ownsRow w.heap.size 2 1 v l.length (nums .i64 (outL l.length q pre)) ∧ v = .slice (some ⟨N + 1, 0, none⟩) l.length l.length) ∧
     (∃ v, Boxed W (N + 1 + 1 + 1) 90 v ∧ W.ownsRow w.heap.size 95 3 v pre.length (partCells q r pre) ∧ True)) ∧ Below w.heap.size w W)
    (fun _ _ _ => False)
    (OwnFrom.and (OwnFrom.and (OwnFrom.and (Own.from (boxed_own _ _ _) _) (OwnFrom.and (Own.from (boxed_own (β := List (Fin l.length)) _ _ (fun _ => .int .i64 total)) _) (OwnFrom.and (Own.from (boxed_own (β := List (Fin l.length)) _ _ (fun _ => .slice (some ad) l.length c)) _) (Own.from (boxed_own (β := List (Fin l.length)) _ _ (fun _ => .int .u64 (sumU l))) _))))
     (OwnFrom.and (Own.from (holdsRow_own w.heap.size (N + 1 + 1) 34 2 1 (fun _ => l.length) (fun pre => nums .i64 (outL l.length q pre)) (fun _ v => v = .slice (some ⟨N + 1, 0, none⟩) l.length l.length)) _)
      (Own.from (holdsRow_own w.heap.size (N + 1 + 1 + 1) 90 95 3 (fun pre => pre.length) (fun pre => partCells q r pre) (fun _ _ => True)) _))) (ownFrom_below (Nat.le_refl _) (by omega)))
    (fun _ _ _ _ _ hs _ _ => hs)
    ⟨⟨⟨bR, b4, b5, b6⟩, ⟨_, bO, rO, rfl⟩, ⟨_, bL, World.ownsRow_nil _ _ _ _, trivial⟩⟩, hB0⟩
    (fun x a' W => ∃ Bx vl, N + 7 ≤ Bx ∧ Boxed W (N + 1 + 1 + 1) 90 vl ∧ some Bx ≠ vl.ownBlock ∧ W.heap[Bx]? = some (.cells (partCell q r x.1).toArray 95 (0, 0)) ∧ a' = { tmps := #[Value.int IntKind.i64 total, Value.slice (some ad) l.length c, undef, undef, u4, u5, Value.int IntKind.u64 (sumU l), undef, u8, Value.pointer (some ⟨N, 0, none⟩), Value.pointer (some ⟨N + 1 + 1, 0, none⟩), Value.pointer (some ⟨N + 1 + 1 + 1, 0, none⟩), .pointer (some ⟨Bx, 0, none⟩), undef, undef, Value.int IntKind.i64 total, Value.slice (some ad) l.length c, Value.int IntKind.i64 (l.length : Int), Value.bool true, Value.bool false, Value.slice (some ad) l.length c, Value.int IntKind.i64 (l.length : Int), Value.int IntKind.i64 (l.length : Int), Value.bool false, u24, u25, u26, u27, u28, u29, u30, u31, u32, u33, u34, u35, u36, Value.int IntKind.u64 (sumU l), Value.bool false, undef, undef, undef, undef, undef, undef, Value.int IntKind.i64 total, Value.slice (some ad) l.length c, Value.int IntKind.i64 (l.length : Int), Value.slice (some ⟨N + 1, 0, none⟩) l.length l.length, Value.int IntKind.i64 total, Value.slice (some ad) l.length c, Value.int IntKind.u64 (sumU l), Value.func (Fn.func 66) #[] #[Value.pointer (some ⟨N + 1 + 1 + 1 + 1 + 1, 0, none⟩), Value.pointer (some ⟨N + 1 + 1 + 1 + 1, 0, none⟩), Value.pointer (some ⟨N + 1 + 1 + 1 + 1 + 1 + 1, 0, none⟩)], .agg #[.int .i64 x.1, .int .i64 (wrap64 (q x.1)), .int .u64 (r x.1)], undef, undef, undef, undef, undef, undef, undef, undef, undef, undef, undef, undef, undef, undef, undef, undef, undef, undef, undef, undef, undef, undef, undef, undef, undef, undef, undef, undef, undef, undef, undef, undef, undef, undef, undef], defers := [] })
    ?hAx ?assign ?body ?done ?stop)
   case hAx =>
    rintro x a' s A B row ⟨Bx, vl, h1, hb, hn, h2, h3⟩ hg hr
    have hne : ∀ (b : Nat) (cs : Array Value) (t : TypeId), A.heap[b]? = some (.cells cs t (0, 0)) → some b ≠ row := fun b cs t h e => by
     obtain ⟨_, o, ho, hcs⟩ := hr b e.symm
     rw [h] at ho; cases ho; cases hcs
    exact ⟨Bx, vl, h1, hb.kept hg (hne _ _ _ hb), hn, (hg.block Bx (blk_lt h2) (hne _ _ _ h2)).trans h2, h3⟩
   case assign =>
    rintro lr pre x W K ⟨⟨⟨bR, b4, b5, b6⟩, ⟨vO, bO, rO, rfl⟩, ⟨vL, bL, rL, _⟩⟩, hB⟩ hK
    gi_wp2
    refine hK _ _ ((KeepsOthers.alloc _ _).from _) (KpOn.of_grownBy (World.grownBy_alloc W _ none) (fun r e => by cases e)) ⟨⟨⟨bR.alloc _, b4.alloc _, b5.alloc _, b6.alloc _⟩, ⟨_, bO.alloc _, rO.alloc _, rfl⟩, ⟨_, bL.alloc _, rL.alloc _, trivial⟩⟩, hB.alloc hB.size _⟩ ⟨W.heap.size, vL, ?_, bL.alloc _, ?_, heap_alloc_new W _, rfl⟩
    ·have := b6.lt
     omega
    ·intro e
     have := rL.lt _ e.symm
     omega
   case body =>
    rintro lr pre x a' W hlr ⟨rec, hrec⟩ ⟨⟨⟨bR, b4, b5, b6⟩, ⟨vO, bO, rO, rfl⟩, ⟨vL, bL, rL, _⟩⟩, hB⟩ ⟨Bx, vl, hBx, bl, hnB, hx, rfl⟩ hlt
    obtain rfl : vl = vL := by have h := bl.cell.symm.trans bL.cell; simpa using h
    have hx0 := blk_cell hx 0
    have hx1 := blk_cell hx 1
    have hx2 := blk_cell hx 2
    simp [partCell] at hx0 hx1 hx2
    have hcL := bL.cell
    have hxn : x.1 < l.length := x.2
    obtain ⟨i0, hi, hz0, hz1, hz2⟩ := info_parts shInfoPart
    gi_wp2_with (gi_at_builtin; refine wpListIn_append_own _ rfl _ _ 90 rfl w.heap.size 95 i0 (.agg #[.int .i64 0, .int .i64 0, .int .u64 0]) 3 24 Try.underlying90 hi hz0 hz1 hz2 rfl (by decide) _ _ _ rfl (rL.alloc _) ⟨W.heap.size, 0, none⟩ 1 1 (partCell q r x.1) rfl rfl (cells_new _ _ _) (by simp [partCell, Value.oneCell']) (by unfold maxLen; omega) (by omega) (by have := hB.size; simp; omega) ?_; intro v' w2 hown' hgrow _; obtain ⟨g', cap', rfl⟩ := ownsRow_succ hown'; obtain ⟨hv1, hv2, hr2, hk2, hb2⟩ := bL.appended (by decide) rL hB.size (by omega) hown' hgrow; have hc1 := hv1.cell; have hf1 := hv1.frozen; obtain ⟨hcO, hX0, hX1, hG, hGf, hY0, hY1, hYf, hfin⟩ := share_body (total := total) hB.size hNw hBx hxn bR b4 b5 b6 bO rO bL rL hx hnB hown' hgrow hr2 hk2 hv2)
    obtain ⟨k1, k2, f1, f2, f3, f4, f5, f6, f7, f8, f9⟩ := hfin (wrap64 (restL total q pre - wrap64 (q x.1)))
    exact ⟨k1.from _, k2, ⟨⟨⟨by rw [restL_snoc]; exact f1, f2, f3, f4⟩, ⟨f5, by rw [outL_snoc]; exact f6⟩, ⟨_, f7, by rw [partCells_snoc, List.length_append]; exact f8⟩⟩, hB.trans f9⟩⟩
   case done =>
    rintro D ys W hD rfl ⟨⟨⟨bR, b4, b5, b6⟩, ⟨vO, bO, rO, rfl⟩, ⟨vL, bL, rL, _⟩⟩, hB⟩ hK
    rw [List.length_finRange] at rL
    have hn0 := Hpos.out
    obtain ⟨g, cap, rfl, hgb, hgl⟩ := rL.form hn0
    have hH := holds_parts q r rL
    have hsort : Calls Try.prog 50 #[.slice (some ⟨g, 0, none⟩) l.length cap, .func (.func 51) #[] #[]] W fun e w' => e = .returned (.tuple #[]) ∧ ∃ n os, w' = sortWorldK (partCell q r) 3 W g 0 n (sortedP r l.length) os := by
     have h := sort_calls q r g cap (Array.range l.length) W hH hgl (by simp; omega)
     rw [Array.size_range] at h
     exact h
    have Hsort := Lib.hid hsort
    have hcL := bL.cell
    have hgN : N ≠ g := fun e => bR.not_row (by decide) rL (by rw [e]; rfl)
    have hgO : N + 1 ≠ g := fun e => by
     rcases own_type_ne rO rL (by decide) with h | h
     ·simp [Value.ownBlock] at h
     ·exact h (by rw [e]; rfl)
    have hgX : N + 1 + 1 ≠ g := fun e => bO.not_row (by decide) rL (by rw [e]; rfl)
    have hgL : N + 1 + 1 + 1 ≠ g := fun e => bL.not_row (by decide) rL (by rw [e]; rfl)
    have hgD : D ≠ g := fun e => by
     have := hH.cell (i := 0) (c := 0) (by simpa using hn0) (by omega)
     rw [← e] at this
     simp [World.cell?, hK] at this
    have HG : ∀ nq os, Hid (Giv q r w.heap.size N g l.length D (.slice none 0 0) w (sortedP r l.length) (restL total q (List.finRange l.length), outL l.length q (List.finRange l.length)) (sortWorldK (partCell q r) 3 W g 0 nq (sortedP r l.length) os)) := fun nq os => Lib.hid
     ⟨sortWorld_blk bR hgN, sortWorld_blk bO hgX, own_move rO (fun k o hk ho => by cases hk; exact sortWorld_blk ho hgO), holdsK_sortWorldK_c _ _ _ _ _ _ _ _ _ hH hgl (by simp [(sortedP_facts r l.length).1]), lt_sortWorldK _ _ _ _ _ _ _ _ hgl, sortWorld_blk hK hgD, hB.trans (sortWorld_below hgb hgl)⟩
    have HL : ∀ nq os, Boxed (sortWorldK (partCell q r) 3 W g 0 nq (sortedP r l.length) os) (N + 1 + 1 + 1) 90 (.slice (some ⟨g, 0, none⟩) l.length cap) := fun nq os => sortWorld_blk bL hgL
    have HLh := Lib.hid HL
    clear hH bR b4 b5 b6 bO rO bL rL hB hsort HL hK
    go_wp2_with (go_at_call 50; refine (Hsort.out).mono ?_; rintro e w' ⟨rfl, nq, os, rfl⟩)
    have gS := HG nq os
    have hLS := (HLh.out nq os).cell
    generalize sortWorldK (partCell q r) 3 W g 0 nq (sortedP r l.length) os = S at gS hLS ⊢
    clear HG HLh
    generalize hs0 : (restL total q (List.finRange l.length), outL l.length q (List.finRange l.length)) = s0 at gS
    generalize hP : sortedP r l.length = P at gS
    go_step3
    go_wp2
    go_loopw [72] (fun i wr => ∃ k : Nat, k ≤ l.length ∧ i = .int .i64 k ∧ Hid (Giv q r w.heap.size N g l.length D (.slice none 0 0) w P (giveL (firstP r l.length k) s0) wr)) (fun i _ => l.length - (intOf i).toNat)
    case atStart => exact ⟨0, Nat.zero_le _, rfl, gS⟩
    case round =>
     obtain ⟨k, hk, rfl, hG⟩ := hrel
     by_cases hlt : k < l.length
     ·have hcs := fun c (hc : c < 3) => (hG.out.parts.cell (i := k) (c := c) (by rw [← hP, (sortedP_facts r l.length).1]; exact hlt) hc).1
      have h0 := hcs 0 (by omega)
      have h1 := hcs 1 (by omega)
      have h2 := hcs 2 (by omega)
      clear hcs
      have hpl : P[k]! < l.length := by rw [← hP]; exact sortedP_lt r l.length k hlt
      have hnext : ∀ s1 s2, giveL (firstP r l.length k) s0 = (s1, s2) → s1 ≠ 0 → giveL (firstP r l.length (k + 1)) s0 = (wrap64 (s1 - 1), s2.set P[k]! (wrap64 (rd s2 P[k]! + 1))) := by
       intro s1 s2 h hz
       rw [firstP_succ r l.length k hlt, giveL_snoc, h, hP]
       exact if_neg hz
      have hstop : ∀ s1 s2, giveL (firstP r l.length k) s0 = (s1, s2) → s1 = 0 → mainOut total l.length q r = s2 := by
       intro s1 s2 h hz
       unfold mainOut
       rw [hs0, giveL_all r l.length k s0 (by rw [h]; exact hz), h]
      generalize P[k]! = p at h0 h1 h2 hpl hnext
      simp [partCell] at h0 h1 h2
      generalize hs : giveL (firstP r l.length k) s0 = s at hG hnext hstop
      obtain ⟨s1, s2⟩ := s
      have hX := hG.out.alloc hG.out.below.size (.cells #[.int .i64 p, .int .i64 (wrap64 (q p)), .int .u64 (r p)] 95)
      have hX1 := hX.rest.cell
      have hX2 := hX.out.cell
      obtain ⟨hX3, hX4⟩ := own_at hX.own (p : Int) (by omega) (by omega)
      rw [Int.toNat_natCast] at hX3 hX4
      by_cases hz : s1 = 0
      ·have hzb : (s1 == 0) = true := by simpa using hz
       have hst := Lib.hid (hstop _ _ rfl hz)
       have hXh := Lib.hid hX
       clear hnext hstop hX hG hs hz
       go_wp2
       refine ⟨by simp, .inl ⟨_, _, rfl, run_takeDeferred hXh.out.hd, ?_⟩⟩
       refine ⟨.tuple #[.slice (some ⟨N + 1, 0, none⟩) l.length l.length, .int .i64 0], by simp [results, Try.results22, go_sem], ?_⟩
       exact share_end hXh.out hst.out (by omega) (by omega)
      ·have hzb : (s1 == 0) = false := by simpa using hz
       have hnx := Lib.hid (hnext _ _ rfl hz)
       have hY := Lib.hid (hX.give (p := p) hNw (Ne.symm hgN) (Ne.symm hgO) (by omega) (by omega) (wrap64 (rd s2 p + 1)) (wrap64 (s1 - 1)))
       have hY0 : Boxed ((wr.alloc (.cells #[.int .i64 p, .int .i64 (wrap64 (q p)), .int .u64 (r p)] 95)).setCell ⟨N + 1, p, none⟩ (.int .i64 (wrap64 (rd s2 p + 1)))) N 2 (.int .i64 s1) := blk_far hX.rest (by show N ≠ N + 1; omega) _
       have hY1 := hY0.cell
       have hY2 := hY0.frozen
       clear hnext hstop hX hG hs hz hY0
       go_wp2
       go_roundw
       case rel => exact ⟨k + 1, by omega, by go_num, by rw [hnx.out]; exact hY⟩
       case measure => simp [intOf]; omega
     ·obtain rfl : k = l.length := by omega
      rw [giveL_done, hP] at hG
      have hX2 := hG.out.out.cell
      have hst : Hid (mainOut total l.length q r = (giveL P.toList s0).2) := Lib.hid (by unfold mainOut; rw [hs0, hP])
      generalize giveL P.toList s0 = s at hG hst
      have hGh := Lib.hid hG.out
      go_wp2
      rw [Exit.noGoto_ret]
      refine ⟨by simp, .inl ⟨_, _, rfl, run_takeDeferred hGh.out.hd, ?_⟩⟩
      refine ⟨.tuple #[.slice (some ⟨N + 1, 0, none⟩) l.length l.length, .int .i64 0], by simp [results, Try.results22, go_sem], ?_⟩
      exact share_end hGh.out hst.out (by omega) (by omega)
   case stop =>
    rintro D c pre W _ _ h _
    exact h.elim
end

section
open Go.RowKit Go.Shelf Go.Proofs.YtpoboffdlnnbmaaW.PrintWords Go.Proofs.YtpoboffdlnnbmaaW.PrintLast Go.Proofs.YtpoboffdlnnbmaaW.PrintMore

theorem w64 (n : Int) : IntKind.u64.wrap n = n % 18446744073709551616 := by simp [IntKind.wrap, IntKind.bits, IntKind.signed]
theorem w64_id {n : Int} (h0 : 0 ≤ n) (h1 : n < 18446744073709551616) : IntKind.u64.wrap n = n := by rw [w64]; exact Int.emod_eq_of_lt h0 h1

/-! One digit of a division: q is a guess, rh what it leaves of the upper part. -/
theorem dig_eq (q rh U u y1 y0 : Int) (h : q * y1 + rh = U) : q * (y1 * 4294967296 + y0) = U * 4294967296 + u - (4294967296 * rh + u - q * y0) := by
 rw [← h, Int.mul_add, ← Int.mul_assoc]
 omega
theorem dig_stop {q rh U u y1 y0 Y : Int} (hY : Y = y1 * 4294967296 + y0) (h : q * y1 + rh = U) (hp : 0 < Y) (hd : q * y0 ≤ 4294967296 * rh + u) (hge : (U * 4294967296 + u) / Y ≤ q) : q = (U * 4294967296 + u) / Y := by
 have h1 := dig_eq q rh U u y1 y0 h
 rw [← hY] at h1
 have h2 : q ≤ (U * 4294967296 + u) / Y := (Int.le_ediv_iff_mul_le hp).2 (by omega)
 omega
theorem dig_down {q rh U u y1 y0 Y : Int} (hY : Y = y1 * 4294967296 + y0) (h : q * y1 + rh = U) (hp : 0 < Y) (hd : 4294967296 * rh + u < q * y0) : (U * 4294967296 + u) / Y ≤ q - 1 := by
 have h1 := dig_eq q rh U u y1 y0 h
 rw [← hY] at h1
 have h2 : (U * 4294967296 + u) / Y < q := (Int.ediv_lt_iff_lt_mul hp).2 (by omega)
 omega
theorem dig_lt {U u Y : Int} (hp : 0 < Y) (hU : U < Y) (hu : u < 4294967296) : (U * 4294967296 + u) / Y < 4294967296 :=
 (Int.ediv_lt_iff_lt_mul hp).2 (by omega)
theorem dig_nonneg {U u Y : Int} (hp : 0 < Y) (hU : 0 ≤ U) (hu : 0 ≤ u) : 0 ≤ (U * 4294967296 + u) / Y := Int.ediv_nonneg (by omega) (Int.le_of_lt hp)
theorem prod_lt {q y : Int} (h0 : 0 ≤ q) (h1 : q ≤ 4294967296) (h2 : 0 ≤ y) (h3 : y < 4294967296) : 0 ≤ q * y ∧ q * y ≤ 4294967296 * 4294967295 := by
 refine ⟨Int.mul_nonneg h0 h2, ?_⟩
 exact Int.mul_le_mul h1 (by omega) h2 (by omega)

section
variable {Y s y1 y0 u q1 U : Int}
def divOut (Y s u q1 U x : Int) : Int × Int := (IntKind.u64.wrap ((IntKind.u64.wrap (q1 * 4294967296)) + x), shr .u64 (IntKind.u64.wrap ((IntKind.u64.wrap ((IntKind.u64.wrap (U * 4294967296)) + u)) - (IntKind.u64.wrap (x * Y)))) s)

/-- A round of the second digit's loop. -/
theorem l1_round (hY : Y = y1 * 4294967296 + y0) (hy1 : 2147483648 ≤ y1) (hy1' : y1 < 4294967296) (hy0 : 0 ≤ y0) (hy0' : y0 < 4294967296) (hu : 0 ≤ u) (hu' : u < 4294967296) (hU : 0 ≤ U) (hUY : U < Y) (hs : 0 ≤ s) (k : Nat) (q rh : Int) (h : q * y1 + rh = U) (hr0 : 0 ≤ rh) (hr1 : rh < 4294967296) (hq1 : q ≤ 4294967297) (hge : (U * 4294967296 + u) / Y ≤ q) :
  bits_Div64.l1 (k + 2) Y s y1 y0 u q1 rh U q = some (divOut Y s u q1 U ((U * 4294967296 + u) / Y)) ∨
  (rh + y1 < 4294967296 ∧ (U * 4294967296 + u) / Y ≤ q - 1 ∧ bits_Div64.l1 (k + 2) Y s y1 y0 u q1 rh U q = bits_Div64.l1 k Y s y1 y0 u q1 (rh + y1) U (q - 1)) := by
 have hp : 0 < Y := by omega
 have hx0 := dig_nonneg hp hU hu
 have hx1 := dig_lt hp hUY hu'
 have hq0 : 0 ≤ q := by omega
 have key : ∀ b : Bool, (b = true → (U * 4294967296 + u) / Y ≤ q - 1) → (b = false → q = (U * 4294967296 + u) / Y) →
   bits_Div64.j4 (k + 1) Y s y1 y0 u q1 rh U q b = some (divOut Y s u q1 U ((U * 4294967296 + u) / Y)) ∨ (rh + y1 < 4294967296 ∧ (U * 4294967296 + u) / Y ≤ q - 1 ∧ bits_Div64.j4 (k + 1) Y s y1 y0 u q1 rh U q b = bits_Div64.l1 k Y s y1 y0 u q1 (rh + y1) U (q - 1)) := by
  intro b hb1 hb2
  cases b with
  | false =>
   left
   simp only [bits_Div64.j4]
   rw [if_neg (by decide), if_pos hs]
   rw [← hb2 rfl]
   rfl
  | true =>
   have hle := hb1 rfl
   simp only [bits_Div64.j4]
   rw [w64_id (n := rh + y1) (by omega) (by omega), w64_id (n := q - 1) (by omega) (by omega)]
   rw [if_pos trivial]
   by_cases hbr : rh + y1 ≥ 4294967296
   ·left
    rw [if_pos hbr, if_pos hs]
    have hpr := prod_lt (q := q - 1) (y := y0) (by omega) (by omega) hy0 hy0'
    have hst : q - 1 = (U * 4294967296 + u) / Y := dig_stop hY (by rw [Int.sub_mul, Int.one_mul]; omega : (q - 1) * y1 + (rh + y1) = U) hp (by omega) hle
    rw [← hst]
    rfl
   ·right
    rw [if_neg hbr]
    exact ⟨by omega, hle, rfl⟩
 simp only [bits_Div64.l1]
 by_cases hb : q ≥ 4294967296
 ·rw [if_pos hb]
  exact key true (fun _ => by omega) (fun h => by cases h)
 ·rw [if_neg hb]
  have hpr := prod_lt (q := q) (y := y0) hq0 (by omega) hy0 hy0'
  have hlt : q * y0 < 18446744073709551616 := by omega
  rw [w64_id (n := q * y0) hpr.1 hlt, w64_id (n := 4294967296 * rh) (by omega) (by omega), w64_id (n := 4294967296 * rh + u) (by omega) (by omega)]
  refine key _ (fun h => dig_down hY ‹_› hp (by simpa using h)) (fun h => dig_stop hY ‹_› hp (by simpa using h) hge)

theorem l1_any (hY : Y = y1 * 4294967296 + y0) (hy1 : 2147483648 ≤ y1) (hy1' : y1 < 4294967296) (hy0 : 0 ≤ y0) (hy0' : y0 < 4294967296) (hu : 0 ≤ u) (hu' : u < 4294967296) (hU : 0 ≤ U) (hUY : U < Y) (hs : 0 ≤ s) (q rh : Int) (h : q * y1 + rh = U) (hr0 : 0 ≤ rh) (hr1 : rh < 4294967296) (hq1 : q ≤ 4294967297) (hge : (U * 4294967296 + u) / Y ≤ q) :
  bits_Div64.l1 6 Y s y1 y0 u q1 rh U q = some (divOut Y s u q1 U ((U * 4294967296 + u) / Y)) := by
 rcases l1_round (q1 := q1) hY hy1 hy1' hy0 hy0' hu hu' hU hUY hs 4 q rh h hr0 hr1 hq1 hge with h1 | ⟨h1, h2, h3⟩
 ·exact h1
 ·rw [h3]
  rcases l1_round (q1 := q1) hY hy1 hy1' hy0 hy0' hu hu' hU hUY hs 2 (q - 1) (rh + y1) (by rw [Int.sub_mul, Int.one_mul]; omega) (by omega) h1 (by omega) h2 with h4 | ⟨h4, _, _⟩
  ·exact h4
  ·omega

/-- A guess at a digit. -/
theorem guess_ge (hY : Y = y1 * 4294967296 + y0) (hy1 : 0 < y1) (hy0 : 0 ≤ y0) (hu : 0 ≤ u) (hu' : u < 4294967296) (hU : 0 ≤ U) : (U * 4294967296 + u) / Y ≤ U / y1 := by
 have hp : 0 < Y := by omega
 rw [Int.le_ediv_iff_mul_le hy1]
 have hx0 := dig_nonneg hp hU hu
 have h1 : (U * 4294967296 + u) / Y * Y ≤ U * 4294967296 + u := Int.ediv_mul_le _ (by omega)
 generalize (U * 4294967296 + u) / Y = x at h1 hx0
 rw [hY, Int.mul_add, ← Int.mul_assoc] at h1
 have h2 : 0 ≤ x * y0 := Int.mul_nonneg hx0 hy0
 omega
theorem guess_le (hY : Y = y1 * 4294967296 + y0) (hy1 : 2147483648 ≤ y1) (hy0' : y0 < 4294967296) (hUY : U < Y) : U / y1 ≤ 4294967297 := by
 have h : U / y1 < 4294967298 := (Int.ediv_lt_iff_lt_mul (by omega)).2 (by omega)
 omega

/-- The first digit's loop ends in the second part, at the digit. -/
theorem l0_round (x14 : Int) (hY : Y = y1 * 4294967296 + y0) (hy1 : 2147483648 ≤ y1) (hy1' : y1 < 4294967296) (hy0 : 0 ≤ y0) (hy0' : y0 < 4294967296) (hu : 0 ≤ u) (hu' : u < 4294967296) (hU : 0 ≤ U) (hUY : U < Y) (k : Nat) (q rh : Int) (h : q * y1 + rh = U) (hr0 : 0 ≤ rh) (hr1 : rh < 4294967296) (hq1 : q ≤ 4294967297) (hge : (U * 4294967296 + u) / Y ≤ q) (x11 : Int) :
  bits_Div64.l0 (k + 2) Y s y1 y0 x11 u x14 q rh = bits_Div64.j2 k Y s y1 y0 x11 u x14 ((U * 4294967296 + u) / Y) ∨
  (rh + y1 < 4294967296 ∧ (U * 4294967296 + u) / Y ≤ q - 1 ∧ bits_Div64.l0 (k + 2) Y s y1 y0 x11 u x14 q rh = bits_Div64.l0 k Y s y1 y0 x11 u x14 (q - 1) (rh + y1)) := by
 have hp : 0 < Y := by omega
 have hx0 := dig_nonneg hp hU hu
 have hx1 := dig_lt hp hUY hu'
 have hq0 : 0 ≤ q := by omega
 have key : ∀ b : Bool, (b = true → (U * 4294967296 + u) / Y ≤ q - 1) → (b = false → q = (U * 4294967296 + u) / Y) →
   bits_Div64.j1 (k + 1) Y s y1 y0 x11 u x14 q rh b = bits_Div64.j2 k Y s y1 y0 x11 u x14 ((U * 4294967296 + u) / Y) ∨ (rh + y1 < 4294967296 ∧ (U * 4294967296 + u) / Y ≤ q - 1 ∧ bits_Div64.j1 (k + 1) Y s y1 y0 x11 u x14 q rh b = bits_Div64.l0 k Y s y1 y0 x11 u x14 (q - 1) (rh + y1)) := by
  intro b hb1 hb2
  cases b with
  | false =>
   left
   simp only [bits_Div64.j1]
   rw [if_neg (by decide), ← hb2 rfl]
  | true =>
   have hle := hb1 rfl
   simp only [bits_Div64.j1]
   rw [w64_id (n := rh + y1) (by omega) (by omega), w64_id (n := q - 1) (by omega) (by omega)]
   rw [if_pos trivial]
   by_cases hbr : rh + y1 ≥ 4294967296
   ·left
    rw [if_pos hbr]
    have hpr := prod_lt (q := q - 1) (y := y0) (by omega) (by omega) hy0 hy0'
    have hst : q - 1 = (U * 4294967296 + u) / Y := dig_stop hY (by rw [Int.sub_mul, Int.one_mul]; omega : (q - 1) * y1 + (rh + y1) = U) hp (by omega) hle
    rw [← hst]
   ·right
    rw [if_neg hbr]
    exact ⟨by omega, hle, rfl⟩
 simp only [bits_Div64.l0]
 by_cases hb : q ≥ 4294967296
 ·rw [if_pos hb]
  exact key true (fun _ => by omega) (fun h => by cases h)
 ·rw [if_neg hb]
  have hpr := prod_lt (q := q) (y := y0) hq0 (by omega) hy0 hy0'
  have hlt : q * y0 < 18446744073709551616 := by omega
  rw [w64_id (n := q * y0) hpr.1 hlt, w64_id (n := 4294967296 * rh) (by omega) (by omega), w64_id (n := 4294967296 * rh + u) (by omega) (by omega)]
  refine key _ (fun h => dig_down hY ‹_› hp (by simpa using h)) (fun h => dig_stop hY ‹_› hp (by simpa using h) hge)
end

theorem w64_w64 (n : Int) : IntKind.u64.wrap (IntKind.u64.wrap n) = IntKind.u64.wrap n := by rw [w64, w64, Int.emod_emod]
/-- The remainder behind a digit. -/
theorem rem_of {U u Y : Int} (hp : 0 < Y) (hY : Y < 18446744073709551616) : IntKind.u64.wrap ((IntKind.u64.wrap ((IntKind.u64.wrap (U * 4294967296)) + u)) - (IntKind.u64.wrap ((U * 4294967296 + u) / Y * Y))) = (U * 4294967296 + u) % Y := by
 rw [w64, w64, w64, w64, Int.emod_add_emod, Int.emod_sub_emod, Int.sub_emod_emod]
 have h := Int.emod_add_mul_ediv (U * 4294967296 + u) Y
 rw [Int.mul_comm Y] at h
 have h0 := Int.emod_nonneg (U * 4294967296 + u) (show Y ≠ 0 by omega)
 have h1 := Int.emod_lt_of_pos (U * 4294967296 + u) hp
 rw [show U * 4294967296 + u - (U * 4294967296 + u) / Y * Y = (U * 4294967296 + u) % Y by omega]
 exact Int.emod_eq_of_lt h0 (by omega)

theorem j2_eq {Y s y1 y0 U u u0 : Int} (hY : Y = y1 * 4294967296 + y0) (hy1 : 2147483648 ≤ y1) (hy1' : y1 < 4294967296) (hy0 : 0 ≤ y0) (hy0' : y0 < 4294967296) (hu : 0 ≤ u) (hu' : u < 4294967296) (hv : 0 ≤ u0) (hv' : u0 < 4294967296) (hU : 0 ≤ U) (hUY : U < Y) (hs : 0 ≤ s) :
  bits_Div64.j2 7 Y s y1 y0 U u u0 ((U * 4294967296 + u) / Y) = some (((U * 4294967296 + u) * 4294967296 + u0) / Y, shr .u64 (((U * 4294967296 + u) * 4294967296 + u0) % Y) s) := by
 have hp : 0 < Y := by omega
 have hYb : Y < 18446744073709551616 := by omega
 simp only [bits_Div64.j2]
 rw [if_neg (by omega), rem_of hp hYb]
 have hN0 := Int.emod_nonneg (U * 4294967296 + u) (show Y ≠ 0 by omega)
 have hN1 := Int.emod_lt_of_pos (U * 4294967296 + u) hp
 have hx0 := dig_nonneg hp hU hu
 have hx1 := dig_lt hp hUY hu'
 have hdm := Int.emod_add_mul_ediv (U * 4294967296 + u) Y
 generalize (U * 4294967296 + u) % Y = U2 at hN0 hN1 hdm
 generalize (U * 4294967296 + u) / Y = x1 at hx0 hx1 hdm
 have htd : Int.tdiv U2 y1 = U2 / y1 := Int.tdiv_eq_ediv_of_nonneg hN0
 rw [htd]
 have hg1 := guess_le (U := U2) hY hy1 hy0' hN1
 have hg0 : 0 ≤ U2 / y1 := Int.ediv_nonneg hN0 (by omega)
 have hgm := Int.emod_add_mul_ediv U2 y1
 have hm0 := Int.emod_nonneg U2 (show y1 ≠ 0 by omega)
 have hm1 := Int.emod_lt_of_pos U2 (show 0 < y1 by omega)
 have hge := guess_ge (U := U2) (u := u0) hY (by omega) hy0 hv hv' hN0
 rw [w64_id (n := U2 / y1) hg0 (by omega)]
 rw [Int.mul_comm] at hgm
 rw [w64_id (n := U2 / y1 * y1) (Int.mul_nonneg hg0 (by omega)) (by omega)]
 rw [show U2 - U2 / y1 * y1 = U2 % y1 by omega, w64_id (n := U2 % y1) hm0 (by omega)]
 rw [l1_any (q1 := x1) hY hy1 hy1' hy0 hy0' hv hv' hN0 hN1 hs (U2 / y1) (U2 % y1) (by omega) hm0 (by omega) hg1 hge]
 unfold divOut
 have hz0 := dig_nonneg hp hN0 hv
 have hz1 := dig_lt hp hN1 hv'
 rw [rem_of hp hYb, w64_id (n := x1 * 4294967296) (by omega) (by omega), w64_id (n := x1 * 4294967296 + _) (by omega) (by omega)]
 have e : (U * 4294967296 + u) * 4294967296 + u0 = (U2 * 4294967296 + u0) + x1 * 4294967296 * Y := by
  rw [← hdm, Int.add_mul, Int.mul_comm Y x1, Int.mul_assoc x1 4294967296 Y, Int.mul_comm 4294967296 Y, ← Int.mul_assoc]
  omega
 rw [e, Int.add_mul_ediv_right _ _ (by omega), Int.add_mul_emod_self_right]
 congr 2
 omega

theorem j2_up {k : Nat} {Y s y1 y0 U u u0 x : Int} {r : Int × Int} (h : bits_Div64.j2 7 Y s y1 y0 U u u0 x = some r) : bits_Div64.j2 (7 + k) Y s y1 y0 U u u0 x = some r :=
 more_rounds (g := fun k => bits_Div64.j2 k Y s y1 y0 U u u0 x) (fun k => (bits_Div64.mono_l k).1 Y s y1 y0 U u u0 x) 7 k r h
theorem l0_eq {Y s y1 y0 U u u0 : Int} (hY : Y = y1 * 4294967296 + y0) (hy1 : 2147483648 ≤ y1) (hy1' : y1 < 4294967296) (hy0 : 0 ≤ y0) (hy0' : y0 < 4294967296) (hu : 0 ≤ u) (hu' : u < 4294967296) (hv : 0 ≤ u0) (hv' : u0 < 4294967296) (hU : 0 ≤ U) (hUY : U < Y) (hs : 0 ≤ s) :
  bits_Div64.l0 13 Y s y1 y0 U u u0 (U / y1) (U % y1) = some (((U * 4294967296 + u) * 4294967296 + u0) / Y, shr .u64 (((U * 4294967296 + u) * 4294967296 + u0) % Y) s) := by
 have hj := j2_eq (u0 := u0) hY hy1 hy1' hy0 hy0' hu hu' hv hv' hU hUY hs
 have hgm := Int.emod_add_mul_ediv U y1
 have hm0 := Int.emod_nonneg U (show y1 ≠ 0 by omega)
 have hm1 := Int.emod_lt_of_pos U (show 0 < y1 by omega)
 have hge := guess_ge (U := U) (u := u) hY (by omega) hy0 hu hu' hU
 have hg1 := guess_le (U := U) hY hy1 hy0' hUY
 rw [Int.mul_comm] at hgm
 rcases l0_round (s := s) u0 hY hy1 hy1' hy0 hy0' hu hu' hU hUY 11 (U / y1) (U % y1) (by omega) hm0 (by omega) hg1 hge U with h1 | ⟨h1, h2, h3⟩
 ·rw [h1]
  exact j2_up (k := 4) hj
 ·rw [h3]
  rcases l0_round (s := s) u0 hY hy1 hy1' hy0 hy0' hu hu' hU hUY 9 (U / y1 - 1) (U % y1 + y1) (by rw [Int.sub_mul, Int.one_mul]; omega) (by omega) h1 (by omega) h2 U with h4 | ⟨h4, _, _⟩
  ·rw [h4]
   exact j2_up (k := 2) hj
  ·omega

theorem shl_w {x : Int} {s : Nat} (hs : s ≤ 64) : shl .u64 x s = (x * 2 ^ s) % 18446744073709551616 := by
 unfold shl
 rw [w64, Int.toNat_natCast, Nat.min_eq_left (by simpa [IntKind.bits] using hs)]
theorem shr_w {x : Int} {s : Nat} (hs : s ≤ 64) : shr .u64 x s = x / 2 ^ s := by
 unfold shr
 rw [Int.toNat_natCast, Nat.min_eq_left (by simpa [IntKind.bits] using hs)]

/-- math/bits.Div64 divides. -/
theorem div64_eq (hi lo y : Int) (h0 : 0 ≤ hi) (h1 : hi < y) (hy : y < 18446744073709551616) (hl0 : 0 ≤ lo) (hl1 : lo < 18446744073709551616) :
  bits_Div64.f 13 hi lo y = some ((hi * 18446744073709551616 + lo) / y, (hi * 18446744073709551616 + lo) % y) := by
 have hp : 0 < y := by omega
 unfold bits_Div64.f
 rw [if_neg (by omega), if_neg (by omega)]
 by_cases hz : hi = 0
 ·subst hz
  rw [if_pos rfl, Int.tdiv_eq_ediv_of_nonneg hl0, Int.tmod_eq_emod_of_nonneg hl0]
  have h2 : lo / y ≤ lo := Int.ediv_le_self _ hl0
  rw [w64_id (Int.ediv_nonneg hl0 (by omega)) (by omega)]
  simp
 ·rw [if_neg hz]
  obtain ⟨Yn, rfl⟩ := Int.eq_ofNat_of_zero_le (show 0 ≤ y by omega)
  have hYn : Yn ≠ 0 := by omega
  have hb := Lib.bitLenAux_bounds 64 Yn (by omega) hYn
  obtain ⟨b1, b2, b3⟩ := hb
  have hb4 : Lib.bitLenAux 64 Yn ≤ 64 := Lib.bitLen_le Yn 64 (Nat.le_refl _) (by omega)
  have hlz : bits_LeadingZeros64.f (Yn : Int) = some (((64 - Lib.bitLenAux 64 Yn : Nat)) : Int) := by
   unfold bits_LeadingZeros64.f
   rw [if_pos ⟨by omega, by omega⟩, Int.toNat_natCast]
   unfold Lib.bitLen
   congr 1
   omega
  rw [hlz]
  simp only [Option.bind_some]
  generalize Lib.bitLenAux 64 Yn = L at b1 b2 b3 hb4
  obtain ⟨s, hs⟩ : ∃ s, 64 - L = s := ⟨_, rfl⟩
  rw [hs]
  have hs63 : s ≤ 63 := by omega
  have w1 : IntKind.u64.wrap (s : Int) = s := w64_id (by omega) (by omega)
  have w2 : IntKind.u64.wrap (64 - (s : Int)) = ((64 - s : Nat) : Int) := by rw [w64_id (by omega) (by omega)]; omega
  rw [w1, w2, if_pos (by omega), if_pos (by omega)]
  -- the powers
  have hpow : (2 : Int) ^ s * 2 ^ (64 - s) = 18446744073709551616 := by rw [← Int.pow_add, show s + (64 - s) = 64 by omega]; rfl
  have hs0 : (0 : Int) < 2 ^ s := Int.pow_pos (by decide)
  have ht0 : (0 : Int) < 2 ^ (64 - s) := Int.pow_pos (by decide)
  have hLe : L = 64 - s := by omega
  have hyhi : (Yn : Int) < 2 ^ (64 - s) := by
   have : ((Yn : Nat) : Int) < ((2 ^ L : Nat) : Int) := by exact_mod_cast b3
   rw [← hLe]; simpa using this
  have hylo : 2 ^ (64 - s) ≤ 2 * (Yn : Int) := by
   have h3 : 2 ^ L = 2 * 2 ^ (L - 1) := by rw [← Nat.pow_succ']; congr 1; omega
   have : ((2 ^ L : Nat) : Int) ≤ ((2 * Yn : Nat) : Int) := by exact_mod_cast (by omega)
   rw [← hLe]; simpa using this
  rw [shl_w (by omega), shl_w (by omega), shl_w (by omega), shr_w (by omega)]
  have hYlt : (Yn : Int) * 2 ^ s < 18446744073709551616 := by
   have h3 : (Yn : Int) * 2 ^ s < 2 ^ (64 - s) * 2 ^ s := Int.mul_lt_mul_of_pos_right hyhi hs0
   rw [Int.mul_comm (2 ^ (64 - s)), hpow] at h3
   exact h3
  have hYge : 9223372036854775808 ≤ (Yn : Int) * 2 ^ s := by
   have h3 : 2 ^ (64 - s) * 2 ^ s ≤ 2 * (Yn : Int) * 2 ^ s := Int.mul_le_mul_of_nonneg_right hylo (by omega)
   rw [Int.mul_comm (2 ^ (64 - s)), hpow, Int.mul_assoc] at h3
   omega
  have hHlt : hi * 2 ^ s < (Yn : Int) * 2 ^ s := Int.mul_lt_mul_of_pos_right h1 hs0
  have hH0 : 0 ≤ hi * 2 ^ s := Int.mul_nonneg h0 (by omega)
  rw [Int.emod_eq_of_lt (by omega) hYlt, Int.emod_eq_of_lt hH0 (by omega)]
  -- the low word's upper bits
  have hlb0 : 0 ≤ lo / 2 ^ (64 - s) := Int.ediv_nonneg hl0 (by omega)
  have hlb1 : lo / 2 ^ (64 - s) < 2 ^ s := (Int.ediv_lt_iff_lt_mul ht0).2 (by rw [hpow]; exact hl1)
  have hs64 : (2 : Int) ^ s ≤ 9223372036854775808 := by
   have h3 : (2 : Nat) ^ s ≤ 2 ^ 63 := Nat.pow_le_pow_right (by decide) hs63
   have : ((2 ^ s : Nat) : Int) ≤ ((2 ^ 63 : Nat) : Int) := by exact_mod_cast h3
   simpa using this
  have hwr : ∀ n : Int, 0 ≤ n → n < 2 ^ 64 → IntKind.u64.wrap n = n := fun n a b => w64_id a (by simpa using b)
  have hor : bits .or .u64 (hi * 2 ^ s) (lo / 2 ^ (64 - s)) = hi * 2 ^ s + lo / 2 ^ (64 - s) :=
   bits_join .u64 64 (by decide) hwr s _ _ hH0 (Int.mul_emod_left _ _) (by have : (2 : Int) ^ 64 = 18446744073709551616 := rfl; omega) hlb0 hlb1 (by have : (2 : Int) ^ 64 = 18446744073709551616 := rfl; omega)
  rw [hor]
  have hmask : ∀ x : Int, 0 ≤ x → x < 18446744073709551616 → bits .and .u64 x 4294967295 = x % 4294967296 := fun x a b =>
   bits_mask .u64 64 (by decide) hwr 32 (by decide) x a (by simpa using b)
  have hLm0 := Int.emod_nonneg (lo * 2 ^ s) (show (18446744073709551616 : Int) ≠ 0 by decide)
  have hLm1 := Int.emod_lt_of_pos (lo * 2 ^ s) (show (0 : Int) < 18446744073709551616 by decide)
  rw [hmask _ (by omega) hYlt, hmask _ hLm0 hLm1]
  -- the whole, shifted
  have hlo : lo * 2 ^ s = lo / 2 ^ (64 - s) * 18446744073709551616 + (lo * 2 ^ s) % 18446744073709551616 := by
   have e1 : lo * 2 ^ s / 18446744073709551616 = lo / 2 ^ (64 - s) := by
    rw [← hpow, Int.mul_comm (2 ^ s) (2 ^ (64 - s)), Int.mul_ediv_mul_of_pos_left _ _ hs0]
   have := Int.emod_add_mul_ediv (lo * 2 ^ s) 18446744073709551616
   rw [e1] at this
   omega
  have hwhole : (hi * 18446744073709551616 + lo) * 2 ^ s = ((hi * 2 ^ s + lo / 2 ^ (64 - s)) * 4294967296 + (lo * 2 ^ s) % 18446744073709551616 / 4294967296) * 4294967296 + (lo * 2 ^ s) % 18446744073709551616 % 4294967296 := by
   have e2 : (hi * 18446744073709551616 + lo) * 2 ^ s = hi * 2 ^ s * 18446744073709551616 + lo * 2 ^ s := by
    rw [Int.add_mul, Int.mul_right_comm]
   rw [e2]
   generalize (lo * 2 ^ s) % 18446744073709551616 = z at hlo ⊢
   omega
  have hUlt : hi * 2 ^ s + lo / 2 ^ (64 - s) < (Yn : Int) * 2 ^ s := by
   have h3 : (hi + 1) * 2 ^ s ≤ (Yn : Int) * 2 ^ s := Int.mul_le_mul_of_nonneg_right (by omega) (by omega)
   rw [Int.add_mul, Int.one_mul] at h3
   omega
  have hfin1 := Int.mul_ediv_mul_of_pos_left (hi * 18446744073709551616 + lo) (Yn : Int) hs0
  have hfin2 := Int.mul_emod_mul_of_pos (hi * 18446744073709551616 + lo) (Yn : Int) hs0
  rw [Int.mul_comm (2 ^ s), Int.mul_comm (2 ^ s)] at hfin2
  rw [hwhole] at hfin1 hfin2
  generalize (lo * 2 ^ s) % 18446744073709551616 = z at *
  have hU0 : 0 ≤ hi * 2 ^ s + lo / 2 ^ (64 - s) := by omega
  generalize hi * 2 ^ s + lo / 2 ^ (64 - s) = U at *
  generalize (Yn : Int) * 2 ^ s = Y at *
  have hy1g : 2147483648 ≤ Y / 4294967296 := by omega
  have htd : Int.tdiv U (Y / 4294967296) = U / (Y / 4294967296) := Int.tdiv_eq_ediv_of_nonneg hU0
  have hg1 := guess_le (U := U) (Y := Y) (y1 := Y / 4294967296) (y0 := Y % 4294967296) (by omega) hy1g (by omega) hUlt
  have hg0 : 0 ≤ U / (Y / 4294967296) := Int.ediv_nonneg hU0 (by omega)
  have hgm := Int.emod_add_mul_ediv U (Y / 4294967296)
  have hm0 := Int.emod_nonneg U (show Y / 4294967296 ≠ 0 by omega)
  have hm1 := Int.emod_lt_of_pos U (show 0 < Y / 4294967296 by omega)
  rw [Int.mul_comm] at hgm
  rw [if_neg (by omega), htd, w64_id (n := U / (Y / 4294967296)) hg0 (by omega), w64_id (n := U / (Y / 4294967296) * (Y / 4294967296)) (Int.mul_nonneg hg0 (by omega)) (by omega),
   show U - U / (Y / 4294967296) * (Y / 4294967296) = U % (Y / 4294967296) by omega, w64_id (n := U % (Y / 4294967296)) hm0 (by omega)]
  rw [l0_eq (by omega) hy1g (by omega) (by omega) (by omega) (by omega) (by omega) (by omega) (by omega) hU0 hUlt (by omega)]
  rw [hfin1, shr_w (by omega), hfin2]
  congr 2
  exact Int.mul_ediv_cancel_left _ (by omega)
end

section
open Go.RowKit Go.Shelf Go.Proofs.YtpoboffdlnnbmaaW.PrintWords Go.Proofs.YtpoboffdlnnbmaaW.PrintLast Go.Proofs.YtpoboffdlnnbmaaW.PrintMore

theorem sum_nonneg : ∀ (l : List Int), (∀ x ∈ l, 0 ≤ x) → 0 ≤ l.sum
 | [], _ => by simp
 | a :: l, h => by
  have h1 := h a (by simp)
  have h2 := sum_nonneg l (fun x hx => h x (by simp [hx]))
  simp only [List.sum_cons]; omega
theorem le_sum : ∀ (l : List Int), (∀ x ∈ l, 0 ≤ x) → ∀ x ∈ l, x ≤ l.sum
 | [], _, x, hx => by simp at hx
 | a :: l, h, x, hx => by
  have h1 := h a (by simp)
  have h2 := sum_nonneg l (fun y hy => h y (by simp [hy]))
  simp only [List.sum_cons]
  rcases List.mem_cons.1 hx with rfl | hx
  ·omega
  ·have := le_sum l (fun y hy => h y (by simp [hy])) x hx
   omega
theorem sum_le (M : Int) : ∀ (l : List Int), (∀ x ∈ l, x ≤ M) → l.sum ≤ l.length * M
 | [], _ => by simp
 | a :: l, h => by
  have h1 := h a (by simp)
  have h2 := sum_le M l (fun x hx => h x (by simp [hx]))
  simp only [List.sum_cons, List.length_cons]
  rw [Int.natCast_succ, Int.add_mul]
  omega
theorem foldl_sum : ∀ (l : List Int) (s : Int), 0 ≤ s → (∀ x ∈ l, 0 ≤ x) → s + l.sum < 18446744073709551616 → l.foldl (fun s w => IntKind.u64.wrap (s + w)) s = s + l.sum
 | [], s, _, _, _ => by simp
 | a :: l, s, hs, h, hb => by
  have h1 := h a (by simp)
  have h2 := sum_nonneg l (fun x hx => h x (by simp [hx]))
  simp only [List.sum_cons] at hb ⊢
  simp only [List.foldl_cons]
  rw [w64_id (n := s + a) (by omega) (by omega), foldl_sum l (s + a) (by omega) (fun x hx => h x (by simp [hx])) (by omega)]
  omega
/-- Weights that are right. -/
def goodW (l : List Int) : Prop := ∀ x ∈ l, 0 ≤ x ∧ x ≤ 1125899906842623
theorem sumU_eq (l : List Int) (hl : l.length ≤ 10000) (h : goodW l) : sumU l = l.sum := by
 have h1 := sum_le 1125899906842623 l (fun x hx => (h x hx).2)
 unfold sumU
 rw [foldl_sum l 0 (Int.le_refl _) (fun x hx => (h x hx).1) (by omega)]
 omega
/-- What a weight gets, and what is left of it. -/
def qOf (total : Int) (l : List Int) (i : Nat) : Int := total * l[i]?.getD 0 / l.sum
def rOf (total : Int) (l : List Int) (i : Nat) : Int := total * l[i]?.getD 0 % l.sum
theorem partQ_of (total : Int) (l : List Int) (hl : l.length ≤ 10000) (h : goodW l) (ht0 : 0 ≤ total) (ht : total ≤ 1152921504606846975) (hs : l.sum ≠ 0) : PartQ total l (sumU l) (qOf total l) (rOf total l) := by
 refine ⟨fun i hi => ?_⟩
 have hm := h l[i] (List.getElem_mem hi)
 have hle := le_sum l (fun x hx => (h x hx).1) l[i] (List.getElem_mem hi)
 have hsum := sum_le 1125899906842623 l (fun x hx => (h x hx).2)
 have hq : qOf total l i = total * l[i] / l.sum := by unfold qOf; rw [List.getElem?_eq_getElem hi]; rfl
 have hr : rOf total l i = total * l[i] % l.sum := by unfold rOf; rw [List.getElem?_eq_getElem hi]; rfl
 rw [sumU_eq l hl h, hq, hr, w64_id ht0 (by omega), w64_id hm.1 (by omega)]
 generalize l[i] = x at *
 generalize l.sum = S at *
 have hS : 0 < S := by omega
 have hp0 : 0 ≤ total * x := Int.mul_nonneg ht0 hm.1
 have hp1 : total * x ≤ 1152921504606846975 * S := Int.mul_le_mul ht hle hm.1 (by decide)
 refine ⟨total * x / 18446744073709551616, total * x % 18446744073709551616, 13, ?_, ?_⟩
 ·unfold bits_Mul64.f
  rw [if_pos ⟨⟨ht0, by omega⟩, ⟨hm.1, by omega⟩⟩]
 ·rw [div64_eq _ _ S (by omega) (by omega) (by omega) (by omega) (by omega)]
  have e : total * x / 18446744073709551616 * 18446744073709551616 + total * x % 18446744073709551616 = total * x := by omega
  rw [e]
end

section
open Go.RowKit Go.Shelf Go.Proofs.YtpoboffdlnnbmaaW.PrintWords Go.Proofs.YtpoboffdlnnbmaaW.PrintLast Go.Proofs.YtpoboffdlnnbmaaW.PrintMore
attribute [local go_sem] max2_int min2_int max_two min_two max_three min_three max_four min_four

/-- m cells, of which the first n hold x. -/
def repC (x : Int) (m n : Nat) : Array Value := (List.replicate n (Value.int .i64 x) ++ List.replicate (m - n) (Value.int .i64 0)).toArray
theorem repC_zero (x : Int) (m : Nat) : repC x m 0 = madeCells #[.int .i64 0] m := by
 apply Array.ext'
 apply List.ext_getElem
 ·simp [repC, madeCells]
 ·intro i h1 h2
  simp [repC, madeCells, Nat.mod_one]
theorem repC_size (x : Int) (m n : Nat) (h : n ≤ m) : (repC x m n).size = m := by simp [repC]; omega
/-- copy(v[n:], src): so many more of them. -/
theorem copy_rep (x : Int) (m n G : Nat) (W : World) (hg : W.heap[G]? = some (.cells (repC x m n) 2 (0, 0))) (ad : Addr) (sl sc k : Nat) (hn : n ≤ m) (hk : k = Nat.min sl (m - n))
  (hsrc : ∀ j u, (List.replicate k (Value.int .i64 x))[j]? = some u → W.cell? (ad.add j) = some u) :
  ∀ dc, (Builtin.copy_ #[34, 34] 3 #[.slice (some ⟨G, n, none⟩) (m - n) dc, .slice (some ad) sl sc]).run Try.prog W = .ok (goInt k) (W.setRow G (repC x m (n + k))) := by
 intro dc
 have hk2 : k ≤ m - n := by rw [hk]; exact Nat.min_le_right _ _
 have h := run_copy_row (P := Try.prog) W 34 34 3 2 G n (m - n) dc ad sl sc (repC x m n) 2 (List.replicate k (Value.int .i64 x)) Try.underlying34 (by kernel_rfl) hg (by simpa using hk) hsrc (by rw [repC_size x m n hn]; simp; omega) (by intro v hv; rw [List.eq_of_mem_replicate hv]; rfl)
 refine h.trans (congr (congrArg Result.ok ?_) (congrArg (World.setRow W G) ?_))
 ·simp
 ·apply Array.ext'
  apply List.ext_getElem
  ·simp [repC]; omega
  ·intro i h1 h2
   simp [repC] at h1 h2 ⊢
   simp [List.getElem_append, List.getElem_take, List.getElem_drop]
   repeat' split
   all_goals first | rfl | omega
set_option maxRecDepth 100000 in
set_option maxHeartbeats 4000000 in
theorem repeat1 (x : Int) (m : Nat) (hm : 1 ≤ m) (hm2 : m ≤ 10000) (ad : Addr) (c : Nat) (hc : 1 ≤ c) (w : World) (hr : w.cell? ad = some (.int .i64 x)) :
  Calls Try.prog 65 #[.slice (some ad) 1 c, .int .i64 m] w fun e w' => ∃ v, e = .returned v ∧ Kd.R (Kd.int .i64) 2 w' w.heap.size (fun _ => True) v (List.replicate m x) ∧ Below w.heap.size w w' := by
 have hmul : bits_Mul.f 1 (m : Int) = some (0, (m : Int)) := by
  unfold bits_Mul.f bits_Mul64.f
  rw [if_pos ⟨⟨by omega, by omega⟩, ⟨by omega, by omega⟩⟩, Int.one_mul]
  simp only [Option.bind_some]
  congr 2 <;> omega
 have Hm := Lib.hid hmul
 clear hmul
 have hmk := print_make (P := Try.prog) 34 2 .i64 8 Try.underlying34 shInfoI64 (by decide) m (by omega)
 have t1 : decide ((m : Int) < 0) = false := decide_eq_false (by omega)
 have t2 : decide ((9223372036854775807 : Int) < (m : Int)) = false := decide_eq_false (by omega)
 go_enter Try.func65, Try.ntmps65
 go_upto_region 6 with (first | (go_at_call 32; refine (bits_Mul.calls 1 m 0 m _ Hm.out).mono ?_; rintro e w' ⟨rfl, ⟨nd, rfl⟩⟩))
 go_upto_region 7 with (fail)
 obtain ⟨G, hG⟩ : ∃ G, w.heap.size = G := ⟨_, rfl⟩
 obtain ⟨W1, hW1⟩ : ∃ W1, (w.drewN nd).alloc (.cells (madeCells #[.int .i64 0] m) 2) = W1 := ⟨_, rfl⟩
 have hB1 : Below G w W1 := by rw [← hW1, ← hG]; exact below_alloc (pw_below_drewN (Below.refl _ _) nd) _
 have hg1 : W1.heap[G]? = some (.cells (repC x m 0) 2 (0, 0)) := by
  rw [← hW1, repC_zero]
  have h := heap_alloc_new (w.drewN nd) (.cells (madeCells #[.int .i64 0] m) 2)
  rw [show (w.drewN nd).heap.size = G from hG] at h
  exact h
 have hr1 : W1.cell? ad = some (.int .i64 x) := (hB1.cell (p := ad) (by rw [← hG]; exact World.block_lt_of_cell? w ad hr)).trans hr
 rw [hG, hW1]
 have hcp := copy_rep x m 0 G W1 hg1 ad 1 c 1 (by omega) (by rw [Nat.sub_zero]; exact (Nat.min_eq_left hm).symm) (by intro j u h; cases j with | zero => cases h; rw [Addr.add_zero']; exact hr1 | succ j => simp at h)
 have hg2 : (W1.setRow G (repC x m 1)).heap[G]? = some (.cells (repC x m 1) 2 (0, 0)) := setRow_heap _ _ _ _ _ _ hg1
 have hB2 := Lib.hid (below_setRow hB1 (Nat.le_refl _) (repC x m 1))
 simp only [Nat.zero_add, Nat.sub_zero] at hcp
 clear hW1 hr1 hg1 hB1 hmk t1 t2 Hm
 go_upto_region 8 with (fail)
 generalize W1.setRow G (repC x m 1) = W2 at hg2 hB2 ⊢
 clear hcp
 go_loopw [8] (fun n wr => ∃ k : Nat, 1 ≤ k ∧ k ≤ m ∧ n = .int .i64 k ∧ wr.heap[G]? = some (.cells (repC x m k) 2 (0, 0)) ∧ Hid (Below G w wr)) (fun n _ => m - (intOf n).toNat)
 case atStart => exact ⟨1, by omega, hm, rfl, hg2, hB2⟩
 case round =>
  obtain ⟨k, hk1, hk2, rfl, hgk, hBk⟩ := hrel
  by_cases hlt : k < m
  ·obtain ⟨e, he⟩ : ∃ e, e = Nat.min k (m - k) := ⟨_, rfl⟩
   have he1 : e ≤ k := by rw [he]; exact Nat.min_le_left _ _
   have he2 : e ≤ m - k := by rw [he]; exact Nat.min_le_right _ _
   have he3 : 1 ≤ e := by rw [he]; exact Nat.le_min.2 ⟨hk1, by omega⟩
   have hcp := copy_rep x m k G wr.drew hgk ⟨G, 0, none⟩ k m e (by omega) he (by
    intro j u h
    have hj : j < e := by simpa using (List.getElem?_eq_some_iff.1 h).1
    rw [add_plain, cell_drew_own, blk_cell hgk]
    rw [List.getElem?_replicate, if_pos hj] at h
    cases h
    simp [repC, List.getElem?_append, show j < k by omega])
   have hcp' := hcp (m - k)
   clear hcp
   have h0 : (0 : Int) ≤ (k : Int) := by omega
   have h1 : (k : Int) ≤ (m : Int) := by omega
   clear he
   go_wp2
   go_region
   go_roundw
   case rel => exact ⟨_, _, _, _, _, _, _, _, _, _, _, _, _, _, ⟨k + e, by omega, by omega, by go_num, setRow_heap _ _ _ _ _ _ hgk, Lib.hid (below_setRow (below_drew hBk.out) (Nat.le_refl _) _)⟩, rfl⟩
   case measure => simp [intOf]; omega
  ·obtain rfl : k = m := by omega
   go_wp2
   go_ret
   refine ⟨_, rfl, Kd.R_of_own (h1 := fun _ => rfl) (enc := Value.int .i64) ⟨by simp [encs], .inr ⟨G, k, repC x k k, by simp, by omega, hgk, by simp, by unfold maxLen; omega, by rw [repC_size x k k (Nat.le_refl _), Nat.mul_one], ?_⟩⟩ (fun _ _ => trivial), ?_⟩
   ·simp [repC, encs]
   ·rw [hG]; exact hBk.out
end

section
open Go.RowKit Go.Shelf Go.Proofs.YtpoboffdlnnbmaaW.PrintWords Go.Proofs.YtpoboffdlnnbmaaW.PrintLast Go.Proofs.YtpoboffdlnnbmaaW.PrintMore
attribute [local go_sem] max2_int min2_int max_two min_two max_three min_three max_four min_four

theorem may_f (total n : Int) : fixed_may.f total n = some (decide (0 ≤ total ∧ total ≤ 1152921504606846975 ∧ 0 < n ∧ n ≤ 10000)) := by
 unfold fixed_may.f
 by_cases h1 : 0 ≤ total <;> by_cases h2 : total ≤ 1152921504606846975 <;> by_cases h3 : 0 < n <;> simp [h1, h2, h3]

def evenOut (total : Int) (n : Nat) : List Int := mainOut total n (qOf total (List.replicate n 1)) (rOf total (List.replicate n 1))
def shareOut (total : Int) (l : List Int) : List Int := mainOut total l.length (qOf total l) (rOf total l)
def mayShare (total n : Int) : Prop := 0 ≤ total ∧ total ≤ 1152921504606846975 ∧ 0 < n ∧ n ≤ 10000
instance (total n : Int) : Decidable (mayShare total n) := by unfold mayShare; infer_instance
def fixed_Even.f (a0 : Int) (a1 : Int) : Option (List Int × Int) := if mayShare a0 a1 then some (evenOut a0 a1.toNat, 0) else some ([], 10)
def fixed_Share.f (a0 : Int) (l1 : List Int) : Option (List Int × Int) :=
 if mayShare a0 l1.length then (if l1.any badW = true then some ([], 10) else if l1.sum = 0 then some (evenOut a0 l1.length, 0) else some (shareOut a0 l1, 0)) else some ([], 10)

theorem good_of (l : List Int) (h : ¬ l.any badW = true) : goodW l := by
 intro x hx
 have h1 : badW x = false := by
  cases e : badW x with
  | false => rfl
  | true => exact absurd (List.any_eq_true.2 ⟨x, hx, e⟩) h
 simp only [badW, Bool.or_eq_false_iff, decide_eq_false_iff_not] at h1
 omega
theorem bad_at (l : List Int) (h : l.any badW = true) : ∃ k, ∃ hk : k < l.length, (∀ i (hi : i < l.length), i < k → 0 ≤ l[i] ∧ l[i] ≤ 1125899906842623) ∧ (l[k] < 0 ∨ 1125899906842623 < l[k]) := by
 induction l with
 | nil => simp at h
 | cons a l ih =>
  by_cases ha : badW a = true
  ·refine ⟨0, by simp, fun i _ hi => by omega, ?_⟩
   simp only [badW, Bool.or_eq_true, decide_eq_true_eq] at ha
   show a < 0 ∨ 1125899906842623 < a
   omega
  ·have h2 : l.any badW = true := by
    simp only [List.any_cons, Bool.or_eq_true] at h
    rcases h with h | h
    ·exact absurd h ha
    ·exact h
   obtain ⟨k, hk, h3, h4⟩ := ih h2
   refine ⟨k + 1, by simp; omega, fun i hi hik => ?_, by simpa using h4⟩
   cases i with
   | zero =>
    have : badW a = false := by simpa using ha
    simp only [badW, Bool.or_eq_false_iff, decide_eq_false_iff_not] at this
    show 0 ≤ a ∧ a ≤ 1125899906842623
    omega
   | succ i => simpa using h3 i (by simpa using hi) (by omega)

set_option maxRecDepth 100000 in
set_option maxHeartbeats 4000000 in
theorem share_not (total : Int) (A : Option Addr) (n c : Nat) (w : World) (hmay : ¬ mayShare total n) :
  Calls Try.prog 22 #[.int .i64 total, .slice A n c] w fun e w' => ∃ v, e = .returned (.tuple #[v, .int .i64 10]) ∧ Kd.R (Kd.int .i64) 2 w' w.heap.size (fun _ => True) v [] ∧ Below w.heap.size w w' := by
 have hm : fixed_may.f total n = some false := by rw [may_f]; congr 1; simpa [mayShare] using hmay
 have Hm := Lib.hid hm
 clear hm
 go_enter Try.func22, Try.ntmps22
 go_wp2
 go_step3
 go_wp2_with (go_at_call 47; refine (fixed_may.calls _ _ false _ Hm.out).mono ?_; rintro e w' ⟨rfl, ⟨nd, rfl⟩⟩)
 try rw [Exit.noGoto_ret]
 go_ret2
 exact ⟨_, rfl, Kd.R_nil _ _ _ _ _, pw_below_drewN (Below.refl _ _) _⟩

set_option maxRecDepth 100000 in
set_option maxHeartbeats 4000000 in
theorem share_bad (total : Int) (l : List Int) (ad : Addr) (c : Nat) (w : World) (hlen : l.length ≤ 10000)
  (hr : ∀ j (h : j < l.length), w.cell? (ad.add j) = some (.int .i64 l[j])) (hmay : mayShare total l.length) (hb : l.any badW = true) :
  Calls Try.prog 22 #[.int .i64 total, .slice (some ad) l.length c] w fun e w' => ∃ v, e = .returned (.tuple #[v, .int .i64 10]) ∧ Kd.R (Kd.int .i64) 2 w' w.heap.size (fun _ => True) v [] ∧ Below w.heap.size w w' := by
 have hm : fixed_may.f total l.length = some true := by rw [may_f]; congr 1; simpa [mayShare] using hmay
 have Hm := Lib.hid hm
 obtain ⟨b, hbl, hok, hbad⟩ := bad_at l hb
 have Hok := Lib.hid hok
 have Hbad := Lib.hid hbad
 have Hr := Lib.hid hr
 clear hm hmay hb hok hbad hr
 go_enter Try.func22, Try.ntmps22
 go_wp2
 go_step3
 go_wp2_with (go_at_call 47; refine (fixed_may.calls _ _ true _ Hm.out).mono ?_; rintro e w' ⟨rfl, ⟨nd, rfl⟩⟩)
 obtain ⟨w1, hw1⟩ : ∃ w1, w.drewN nd = w1 := ⟨_, rfl⟩
 have HB1 := Lib.hid (show Below w.heap.size w w1 from hw1 ▸ pw_below_drewN (Below.refl _ _) _)
 have Hr1 : Hid (∀ j (h : j < l.length), w1.cell? (ad.add j) = some (.int .i64 l[j])) := Lib.hid (fun j h => hw1 ▸ Hr.out j h)
 rw [hw1]
 clear hw1
 go_loop [6, 22] (fun s i => ∃ k : Nat, k ≤ b ∧ i = .int .i64 k ∧ s = .int .u64 (sumU (l.take k))) (fun _ i => b - (intOf i).toNat)
 case atStart => exact ⟨0, Nat.zero_le _, rfl, rfl⟩
 case round =>
  obtain ⟨k, hk, rfl, rfl⟩ := hrel
  have hlt : k < l.length := by omega
  have hcx := Hr1.out k hlt
  by_cases hkb : k < b
  ·obtain ⟨hk1, hk2⟩ := Hok.out k hlt hkb
   have hst := Lib.hid (sumU_take l k hlt)
   go_wp2
   go_round
   case rel => exact ⟨k + 1, by omega, by go_num, by rw [hst.out]⟩
   case measure => simp [intOf]; omega
  ·obtain rfl : k = b := by omega
   have hb2 := Hbad.out
   by_cases hneg : l[k] < 0
   ·go_wp2
    try rw [Exit.noGoto_ret]
    go_ret2
    exact ⟨_, rfl, Kd.R_nil _ _ _ _ _, HB1.out⟩
   ·have hbig : 1125899906842623 < l[k] := by omega
    clear hb2
    go_wp2
    try rw [Exit.noGoto_ret]
    go_ret2
    exact ⟨_, rfl, Kd.R_nil _ _ _ _ _, HB1.out⟩

/-- A slice that is read: its cells. -/
theorem cells_of_C {w : World} {A : Option Addr} {l : List Int} (h : Kd.C (Kd.int .i64) w A l.length l) (hp : 0 < l.length) : ∃ ad, A = some ad ∧ ad.block < w.heap.size ∧ ∀ j (hj : j < l.length), w.cell? (ad.add j) = some (.int .i64 l[j]) := by
 obtain ⟨_, _, h3⟩ := Kd.reads_of_C (d := (0 : Int)) (h1 := fun _ => rfl) h
 obtain ⟨ad, rfl, hc⟩ := h3 hp
 have hc' : ∀ j (hj : j < l.length), w.cell? (ad.add j) = some (.int .i64 l[j]) := fun j hj => by
  have h5 := hc j hj
  rw [List.getD_eq_getElem?_getD, List.getElem?_eq_getElem hj] at h5
  exact h5
 refine ⟨ad, rfl, ?_, hc'⟩
 have := World.block_lt_of_cell? w _ (hc' 0 hp)
 rwa [add_block] at this
theorem share_pos (total : Int) (l : List Int) (A : Option Addr) (c : Nat) (w : World) (hr : Kd.C (Kd.int .i64) w A l.length l) (hc : l.length ≤ c) (hmay : mayShare total l.length) (hg : goodW l) (hs : l.sum ≠ 0) :
  Calls Try.prog 22 #[.int .i64 total, .slice A l.length c] w fun e w' => ∃ v, e = .returned (.tuple #[v, .int .i64 0]) ∧ Kd.R (Kd.int .i64) 2 w' w.heap.size (fun _ => True) v (shareOut total l) ∧ Below w.heap.size w w' := by
 obtain ⟨h1, h2, h3, h4⟩ := hmay
 obtain ⟨ad, rfl, had, hcell⟩ := cells_of_C hr (by omega)
 exact share_main total l ad c w (by omega) (by omega) hc hcell had (by rw [may_f]; simp; omega) (fun i hi => hg _ (List.getElem_mem hi)) (by rw [sumU_eq l (by omega) hg]; exact hs) _ _ (partQ_of total l (by omega) hg h1 h2 hs)

theorem ones_sum (n : Nat) : (List.replicate n (1 : Int)).sum = n := by
 induction n with
 | zero => rfl
 | succ n ih => rw [List.replicate_succ, List.sum_cons, ih]; omega
theorem ones_good (n : Nat) : goodW (List.replicate n (1 : Int)) := fun x hx => by rw [List.eq_of_mem_replicate hx]; omega

set_option maxRecDepth 100000 in
set_option maxHeartbeats 4000000 in
theorem even_yes (total : Int) (n : Nat) (w : World) (hmay : mayShare total n) :
  Calls Try.prog 48 #[.int .i64 total, .int .i64 n] w fun e w' => ∃ v, e = .returned (.tuple #[v, .int .i64 0]) ∧ Kd.R (Kd.int .i64) 2 w' w.heap.size (fun _ => True) v (evenOut total n) ∧ Below w.heap.size w w' := by
 have hm : fixed_may.f total n = some true := by rw [may_f]; congr 1; simpa [mayShare] using hmay
 have Hm := Lib.hid hm
 obtain ⟨h1, h2, h3, h4⟩ := hmay
 have hS : ∀ (v : Value) (W : World), Kd.R (Kd.int .i64) 2 W w.heap.size (fun _ => True) v (List.replicate n 1) → Below w.heap.size w W → Calls Try.prog 22 #[.int .i64 total, v] W fun e w' => ∃ v, e = .returned (.tuple #[v, .int .i64 0]) ∧ Kd.R (Kd.int .i64) 2 w' w.heap.size (fun _ => True) v (evenOut total n) ∧ Below w.heap.size w w' := by
  intro v W hv hB
  obtain ⟨g, cap, rfl, hg1, hg2, _⟩ := Kd.R_form hv (by simp; omega)
  obtain ⟨_, hle, hC⟩ := Kd.R_reads' hv
  rw [List.length_replicate] at hle
  have h := share_pos total (List.replicate n 1) _ cap W hC (by simpa using hle) (by unfold mayShare; rw [List.length_replicate]; omega) (ones_good n) (by rw [ones_sum]; omega)
  refine h.mono ?_
  rintro e w' ⟨v', rfl, hv', hb'⟩
  refine ⟨v', rfl, ?_, below_then hB hB.size hb'⟩
  have e1 : shareOut total (List.replicate n 1) = evenOut total n := by unfold shareOut evenOut; rw [List.length_replicate]
  rw [e1] at hv'
  exact Kd.R_lower hv' hB.size
 have HS := Lib.hid hS
 have hR : ∀ nd, Calls Try.prog 65 #[.slice (some ⟨w.heap.size, 0, none⟩) 1 1, .int .i64 n] ((w.drewN nd).alloc (.cells #[.int .i64 1] 2)) fun e w' => ∃ v, e = .returned v ∧ Kd.R (Kd.int .i64) 2 w' w.heap.size (fun _ => True) v (List.replicate n 1) ∧ Below w.heap.size w w' := by
  intro nd
  have hB : Below w.heap.size w ((w.drewN nd).alloc (.cells #[.int .i64 1] 2)) := below_alloc (pw_below_drewN (Below.refl _ _) _) _
  have hcell : ((w.drewN nd).alloc (.cells #[.int .i64 1] 2)).cell? ⟨w.heap.size, 0, none⟩ = some (.int .i64 1) := (blk_cell (g := w.heap.size) (heap_alloc_new (w.drewN nd) (.cells #[.int .i64 1] 2)) 0).trans rfl
  refine (repeat1 1 n (by omega) (by omega) ⟨w.heap.size, 0, none⟩ 1 (by omega) _ hcell).mono ?_
  rintro e w' ⟨v, rfl, hv, hb⟩
  exact ⟨v, rfl, Kd.R_lower hv hB.size, below_then hB hB.size hb⟩
 have HR := Lib.hid hR
 clear hm hS hR
 go_enter Try.func48, Try.ntmps48
 go_wp2_with (first | (go_at_call 47; refine (fixed_may.calls _ _ true _ Hm.out).mono ?_; rintro e w' ⟨rfl, ⟨nd, rfl⟩⟩) | (go_at_call 65; refine (HR.out _).mono ?_; rintro e w' ⟨v, rfl, hv, hb⟩; have hv' := Lib.hid hv; have hb' := Lib.hid hb; clear hv hb) | (go_at_call 22; refine (HS.out _ _ hv'.out hb'.out).mono ?_; rintro e w' ⟨v2, rfl, hv2, hb2⟩; have hv3 := Lib.hid hv2; have hb3 := Lib.hid hb2; clear hv2 hb2))
 go_ret2
 exact ⟨_, rfl, hv3.out, hb3.out⟩

set_option maxRecDepth 100000 in
set_option maxHeartbeats 4000000 in
theorem even_not (total n : Int) (w : World) (hmay : ¬ mayShare total n) :
  Calls Try.prog 48 #[.int .i64 total, .int .i64 n] w fun e w' => ∃ v, e = .returned (.tuple #[v, .int .i64 10]) ∧ Kd.R (Kd.int .i64) 2 w' w.heap.size (fun _ => True) v [] ∧ Below w.heap.size w w' := by
 have hm : fixed_may.f total n = some false := by rw [may_f]; congr 1; simpa [mayShare] using hmay
 have Hm := Lib.hid hm
 clear hm
 go_enter Try.func48, Try.ntmps48
 go_wp2_with (first | (go_at_call 47; refine (fixed_may.calls _ _ false _ Hm.out).mono ?_; rintro e w' ⟨rfl, ⟨nd, rfl⟩⟩))
 go_ret2
 exact ⟨_, rfl, Kd.R_nil _ _ _ _ _, pw_below_drewN (Below.refl _ _) _⟩

set_option maxRecDepth 100000 in
set_option maxHeartbeats 4000000 in
theorem share_zero (total : Int) (l : List Int) (ad : Addr) (c : Nat) (w : World) (hlen : l.length ≤ 10000)
  (hr : ∀ j (h : j < l.length), w.cell? (ad.add j) = some (.int .i64 l[j])) (hmay : mayShare total l.length) (hg : goodW l) (hs : l.sum = 0) :
  Calls Try.prog 22 #[.int .i64 total, .slice (some ad) l.length c] w fun e w' => ∃ v, e = .returned (.tuple #[v, .int .i64 0]) ∧ Kd.R (Kd.int .i64) 2 w' w.heap.size (fun _ => True) v (evenOut total l.length) ∧ Below w.heap.size w w' := by
 have hm : fixed_may.f total l.length = some true := by rw [may_f]; congr 1; simpa [mayShare] using hmay
 have Hm := Lib.hid hm
 have hok : ∀ i (h : i < l.length), 0 ≤ l[i] ∧ l[i] ≤ 1125899906842623 := fun i h => hg _ (List.getElem_mem h)
 have Hok := Lib.hid hok
 have Hr := Lib.hid hr
 have Hmay := Lib.hid hmay
 have hs2 : sumU l = 0 := by rw [sumU_eq l hlen hg]; exact hs
 have Hs := Lib.hid hs2
 have He := Lib.hid (fun W => even_yes total l.length W hmay)
 clear hm hmay hok hr hg hs hs2
 go_enter Try.func22, Try.ntmps22
 go_wp2
 go_step3
 go_wp2_with (go_at_call 47; refine (fixed_may.calls _ _ true _ Hm.out).mono ?_; rintro e w' ⟨rfl, ⟨nd, rfl⟩⟩)
 obtain ⟨w1, hw1⟩ : ∃ w1, w.drewN nd = w1 := ⟨_, rfl⟩
 have HB1 := Lib.hid (show Below w.heap.size w w1 from hw1 ▸ pw_below_drewN (Below.refl _ _) _)
 have Hr1 : Hid (∀ j (h : j < l.length), w1.cell? (ad.add j) = some (.int .i64 l[j])) := Lib.hid (fun j h => hw1 ▸ Hr.out j h)
 rw [hw1]
 clear hw1
 go_loop [6, 22] (fun s i => ∃ k : Nat, k ≤ l.length ∧ i = .int .i64 k ∧ s = .int .u64 (sumU (l.take k))) (fun _ i => l.length - (intOf i).toNat)
 case atStart => exact ⟨0, Nat.zero_le _, rfl, rfl⟩
 case round =>
  obtain ⟨k, hk, rfl, rfl⟩ := hrel
  by_cases hlt : k < l.length
  ·have hcx := Hr1.out k hlt
   obtain ⟨hk1, hk2⟩ := Hok.out k hlt
   have hst := Lib.hid (sumU_take l k hlt)
   go_wp2
   go_round
   case rel => exact ⟨k + 1, by omega, by go_num, by rw [hst.out]⟩
   case measure => simp [intOf]; omega
  ·obtain rfl : k = l.length := by omega
   have hS0 : (sumU l == 0) = true := by rw [Hs.out]; rfl
   go_wp2_with (first | (go_at_call 48; refine (He.out _).mono ?_; rintro e w' ⟨v2, rfl, hv2, hb2⟩; have hv3 := Lib.hid hv2; have hb3 := Lib.hid hb2; clear hv2 hb2))
   try rw [Exit.noGoto_ret]
   go_ret2
   exact ⟨_, rfl, Kd.R_lower hv3.out HB1.out.size, below_then HB1.out HB1.out.size hb3.out⟩

theorem fixed_Even.calls (a0 : Int) (a1 : Int) (r1 : List Int) (r2 : Int) (w : World) (h : fixed_Even.f a0 a1 = some (r1, r2)) :
  Calls Try.prog 48 #[.int .i64 a0, .int .i64 a1] w fun e w' => ∃ v0_ : Value, e = .returned (.tuple #[v0_, .int .i64 r2]) ∧ Kd.R (Kd.int .i64) 2 w' w.heap.size (fun _ => True) v0_ r1 ∧ Below w.heap.size w w' := by
 unfold fixed_Even.f at h
 by_cases hm : mayShare a0 a1
 ·rw [if_pos hm] at h
  simp only [Option.some.injEq, Prod.mk.injEq] at h
  obtain ⟨rfl, rfl⟩ := h
  obtain ⟨n, rfl⟩ := Int.eq_ofNat_of_zero_le (show 0 ≤ a1 by have := hm.2.2.1; omega)
  exact even_yes a0 n w hm
 ·rw [if_neg hm] at h
  simp only [Option.some.injEq, Prod.mk.injEq] at h
  obtain ⟨rfl, rfl⟩ := h
  exact even_not a0 a1 w hm
theorem fixed_Share.calls (a0 : Int) (A1 : Option Addr) (c1 : Nat) (l1 : List Int) (r1 : List Int) (r2 : Int) (w : World) (hr1 : Kd.C (Kd.int .i64) w A1 l1.length l1) (hc1 : l1.length ≤ c1) (h : fixed_Share.f a0 l1 = some (r1, r2)) :
  Calls Try.prog 22 #[.int .i64 a0, .slice A1 l1.length c1] w fun e w' => ∃ v0_ : Value, e = .returned (.tuple #[v0_, .int .i64 r2]) ∧ Kd.R (Kd.int .i64) 2 w' w.heap.size (fun _ => True) v0_ r1 ∧ Below w.heap.size w w' := by
 unfold fixed_Share.f at h
 by_cases hm : mayShare a0 l1.length
 ·rw [if_pos hm] at h
  have hm' := hm
  obtain ⟨h1, h2, h3, h4⟩ := hm'
  by_cases hb : l1.any badW = true
  ·rw [if_pos hb] at h
   simp only [Option.some.injEq, Prod.mk.injEq] at h
   obtain ⟨rfl, rfl⟩ := h
   obtain ⟨ad, rfl, _, hcell⟩ := cells_of_C hr1 (by omega)
   exact share_bad a0 l1 ad c1 w (by omega) hcell hm hb
  ·rw [if_neg hb] at h
   have hg := good_of l1 hb
   by_cases hs : l1.sum = 0
   ·rw [if_pos hs] at h
    simp only [Option.some.injEq, Prod.mk.injEq] at h
    obtain ⟨rfl, rfl⟩ := h
    obtain ⟨ad, rfl, _, hcell⟩ := cells_of_C hr1 (by omega)
    exact share_zero a0 l1 ad c1 w (by omega) hcell hm hg hs
   ·rw [if_neg hs] at h
    simp only [Option.some.injEq, Prod.mk.injEq] at h
    obtain ⟨rfl, rfl⟩ := h
    exact share_pos a0 l1 A1 c1 w hr1 hc1 hm hg hs
 ·rw [if_neg hm] at h
  simp only [Option.some.injEq, Prod.mk.injEq] at h
  obtain ⟨rfl, rfl⟩ := h
  exact share_not a0 A1 l1.length c1 w hm
end

end Go.Proofs.Ytpoboffdlnnbmaa.PA
