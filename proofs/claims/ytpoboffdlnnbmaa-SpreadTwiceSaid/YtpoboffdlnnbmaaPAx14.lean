-- MADE by wip/tools/xprint.py of this repo: the kit's print.py, turned by this session, and texts by hand
import Derived.Test.YtpoboffdlnnbmaaPAx0
import Derived.Test.YtpoboffdlnnbmaaPAx2
import Derived.Test.YtpoboffdlnnbmaaPAx3
namespace Go.Proofs.Ytpoboffdlnnbmaa.PA
open Go.RowKit Go.Proofs.YtpoboffdlnnbmaaW.PrintWords Go.Proofs.YtpoboffdlnnbmaaW.PrintLast Go.Proofs.YtpoboffdlnnbmaaW.PrintMore
attribute [local go_sem] max2_int min2_int max_two min_two max_three min_three max_four min_four   -- for this text's walks alone
set_option linter.unusedVariables false
set_option linter.unusedSimpArgs false

-- BY HAND: bands1.tpl
section
open Go.RowKit Go.Shelf Go.Proofs.YtpoboffdlnnbmaaW.PrintWords Go.Proofs.YtpoboffdlnnbmaaW.PrintLast Go.Proofs.YtpoboffdlnnbmaaW.PrintMore
attribute [local go_sem] max2_int min2_int max_two min_two max_three min_three max_four min_four
/-- The cells of bands that lie one behind the other. -/
def bandC (b : S42) : List Value := [.int .i64 b.f0, .int .i64 b.f1, .int .i64 b.f2, .int .i64 b.f3]
def rowB (bs : List S42) : List Value := bs.flatMap bandC
theorem rowB_append (a b : List S42) : rowB (a ++ b) = rowB a ++ rowB b := List.flatMap_append
theorem rowB_length : ∀ bs : List S42, (rowB bs).length = bs.length * 4
 | [] => rfl
 | b :: bs => by
  show (bandC b ++ rowB bs).length = _
  rw [List.length_append, rowB_length bs, List.length_cons]
  show 4 + _ = _
  omega
theorem rowB_reps : ∀ bs : List S42, Reps (fun p c => c = bandC p) 4 bs (rowB bs)
 | [] => ⟨rfl, fun j p h => by simp at h⟩
 | b :: bs => by
  obtain ⟨h1, h2⟩ := rowB_reps bs
  refine ⟨rowB_length _, fun j p h => ?_⟩
  cases j with
  | zero =>
   simp only [List.getElem?_cons_zero, Option.some.injEq] at h
   subst h
   rfl
  | succ j =>
   rw [List.getElem?_cons_succ] at h
   have := h2 j p h
   show ((bandC b ++ rowB bs).drop ((j + 1) * 4)).take 4 = bandC p
   rw [List.drop_append, show (j + 1) * 4 - (bandC b).length = j * 4 by show (j + 1) * 4 - 4 = _; omega, List.drop_of_length_le (by show 4 ≤ _; omega), List.nil_append]
   exact this
theorem reps_same {α : Type} {g : α → List Value} {s : Nat} (hs : 0 < s) {xs : List α} {c1 c2 : List Value} (h1 : Reps (fun p c => c = g p) s xs c1) (h2 : Reps (fun p c => c = g p) s xs c2) : c1 = c2 := by
 refine List.ext_getElem? (fun i => ?_)
 by_cases hi : i < xs.length * s
 ·have hj : i / s < xs.length := Nat.div_lt_of_lt_mul (by rw [Nat.mul_comm]; exact hi)
  have e1 := h1.2 (i / s) xs[i / s] (List.getElem?_eq_getElem hj)
  have e2 := h2.2 (i / s) xs[i / s] (List.getElem?_eq_getElem hj)
  have e := congrArg (fun l : List Value => l[i % s]?) (e1.trans e2.symm)
  rw [List.getElem?_take_of_lt (Nat.mod_lt i hs), List.getElem?_take_of_lt (Nat.mod_lt i hs), List.getElem?_drop, List.getElem?_drop, Nat.div_add_mod' i s] at e
  exact e
 ·rw [List.getElem?_eq_none (by rw [h1.1]; omega), List.getElem?_eq_none (by rw [h2.1]; omega)]
theorem made_rowB (m : Nat) : madeCells #[.int .i64 0, .int .i64 0, .int .i64 0, .int .i64 0] (m * 4) = (rowB (List.replicate m z42)).toArray := by
 have h := Kd.reps_made (R := fun (p : S42) c => c = bandC p) (z := .agg #[.int .i64 0, .int .i64 0, .int .i64 0, .int .i64 0]) (size := 4) (z0 := z42) rfl (by decide) rfl m
 have e := reps_same (by decide) h (rowB_reps _)
 rw [← e]
 exact (Array.toArray_toList).symm
/-- m bands, of which the first n are b. -/
def repBs (b : S42) (m n : Nat) : List S42 := List.replicate n b ++ List.replicate (m - n) z42
theorem repBs_length (b : S42) (m n : Nat) (h : n ≤ m) : (repBs b m n).length = m := by
 unfold repBs
 rw [List.length_append, List.length_replicate, List.length_replicate]
 omega
/-- copy of so many bands' cells. -/
theorem run_copy_rowS {P : Program} (w : World) (dT sT ty elem : TypeId) (g o dLen dCap : Nat) (a : Addr) (sLen sCap : Nat) (cur : Array Value) (t : TypeId) (cs : List Value) (s k : Nat)
  (hu : P.underlying dT = some (.slice elem)) (hs : (P.info? elem).map (·.size) = some s)
  (hg : w.heap[g]? = some (.cells cur t (0, 0))) (hk : k = Nat.min sLen dLen) (hn : cs.length = k * s)
  (hsrc : ∀ j v, cs[j]? = some v → w.cell? (a.add j) = some v) (hfit : o + cs.length ≤ cur.size) (h1 : ∀ v ∈ cs, v.oneCell' = true) :
  (Builtin.copy_ #[dT, sT] ty #[.slice (some ⟨g, o, none⟩) dLen dCap, .slice (some a) sLen sCap]).run P w =
   .ok (goInt k) (w.setRow g (cur.toList.take o ++ cs ++ cur.toList.drop (o + cs.length)).toArray) := by
 have hl := run_loadCells_list (P := P) w a cs hsrc
 have hst := run_storeCells_at P g o t cs 0 cur w hg (by simpa using hfit) h1
 cases hq : P.info? elem with
 | none => simp [hq] at hs
 | some i =>
  have hi : i.size = s := by simpa [hq] using hs
  simp [Builtin.copy_, run_underlying hu, Builtin.lenOf, Builtin.firstCells, sizeOf, typeInfo, hq, hi, ← hk, ← hn, hl, hst]
/-- copy(v[n:], src): so many more of them. -/
theorem copy_repB (b : S42) (m n G : Nat) (W : World) (hg : W.heap[G]? = some (.cells (rowB (repBs b m n)).toArray 42 (0, 0))) (ad : Addr) (sl sc k : Nat) (hn : n ≤ m) (hk : k = Nat.min sl (m - n))
  (hsrc : ∀ j u, (rowB (List.replicate k b))[j]? = some u → W.cell? (ad.add j) = some u) :
  ∀ dc, (Builtin.copy_ #[27, 27] 3 #[.slice (some ⟨G, n * 4, none⟩) (m - n) dc, .slice (some ad) sl sc]).run Try.prog W = .ok (goInt k) (W.setRow G (rowB (repBs b m (n + k))).toArray) := by
 intro dc
 have hk2 : k ≤ m - n := by rw [hk]; exact Nat.min_le_right _ _
 have hcl : (rowB (List.replicate k b)).length = k * 4 := by rw [rowB_length, List.length_replicate]
 have h := run_copy_rowS (P := Try.prog) W 27 27 3 42 G (n * 4) (m - n) dc ad sl sc (rowB (repBs b m n)).toArray 42 (rowB (List.replicate k b)) 4 k Try.underlying27 (by kernel_rfl) hg hk hcl hsrc
  (by rw [hcl, List.size_toArray, rowB_length, repBs_length b m n hn]; omega) (by
   intro v hv
   obtain ⟨x, _, hx⟩ := List.mem_flatMap.1 hv
   simp only [bandC, List.mem_cons, List.not_mem_nil, or_false] at hx
   rcases hx with rfl | rfl | rfl | rfl <;> rfl)
 refine h.trans (congrArg (Result.ok (goInt k)) (congrArg (World.setRow W G) (congrArg List.toArray ?_)))
 rw [hcl]
 have e1 : repBs b m n = List.replicate n b ++ (List.replicate k z42 ++ List.replicate (m - (n + k)) z42) := by
  unfold repBs
  rw [List.replicate_append_replicate, show k + (m - (n + k)) = m - n by omega]
 have e2 : repBs b m (n + k) = List.replicate n b ++ List.replicate k b ++ List.replicate (m - (n + k)) z42 := by
  unfold repBs
  rw [List.replicate_append_replicate]
 have l1 : (rowB (List.replicate n b)).length = n * 4 := by rw [rowB_length, List.length_replicate]
 have l2 : (rowB (List.replicate k z42)).length = k * 4 := by rw [rowB_length, List.length_replicate]
 show (rowB (repBs b m n)).take (n * 4) ++ _ ++ (rowB (repBs b m n)).drop (n * 4 + k * 4) = _
 rw [e1, e2, rowB_append, rowB_append, rowB_append, rowB_append, List.take_left' l1, ← List.drop_drop, List.drop_left' l1, List.drop_left' l2]
set_option maxRecDepth 100000 in
set_option maxHeartbeats 4000000 in
theorem repeatB (b : S42) (m : Nat) (hm2 : m ≤ 10000) (ad : Addr) (c : Nat) (hc : 1 ≤ c) (w : World) (hr : ∀ j u, (bandC b)[j]? = some u → w.cell? (ad.add j) = some u) (had : ad.block < w.heap.size) :
  Calls Try.prog 13 #[.slice (some ad) 1 c, .int .i64 m] w fun e w' => ∃ v, e = .returned v ∧ Kd.R k42 42 w' w.heap.size (fun _ => True) v (List.replicate m b) ∧ Below w.heap.size w w' := by
 have hmul : bits_Mul.f 1 (m : Int) = some (0, (m : Int)) := by
  unfold bits_Mul.f bits_Mul64.f
  rw [if_pos ⟨⟨by omega, by omega⟩, ⟨by omega, by omega⟩⟩, Int.one_mul]
  simp only [Option.bind_some]
  congr 2 <;> omega
 have Hm := Lib.hid hmul
 clear hmul
 have hmk : ∀ W : World, (Instr.makeSlice 27 (.int .i64 (m : Int)) (.int .i64 (m : Int))).run Try.prog W = .ok (.slice (some ⟨W.heap.size, 0, none⟩) m m) (W.alloc (.cells (rowB (repBs b m 0)).toArray 42)) := by
  intro W
  obtain ⟨i0, hi, hzz⟩ := Option.map_eq_some_iff.1 info42
  simp only [Prod.mk.injEq] at hzz
  obtain ⟨hz0, hz1, hz2⟩ := hzz
  have h := run_make (P := Try.prog) W 27 42 i0 _ Try.underlying27 hi hz0 .i64 .i64 (m : Int) (m : Int) (by omega) (by omega) (by rw [hz2]; omega) (by omega)
  rw [Int.toNat_natCast, hz1] at h
  rw [h]
  have e : repBs b m 0 = List.replicate m z42 := by unfold repBs; rfl
  rw [e, ← made_rowB]
  rfl
 have t1 : decide ((m : Int) < 0) = false := decide_eq_false (by omega)
 have t2 : decide ((9223372036854775807 : Int) < (m : Int)) = false := decide_eq_false (by omega)
 have Hr := Lib.hid hr
 have Had := Lib.hid had
 clear hr had
 go_enter Try.func13, Try.ntmps13
 go_upto_region 6 with (first | (go_at_call 32; refine (bits_Mul.calls 1 m 0 m _ Hm.out).mono ?_; rintro e w' ⟨rfl, ⟨nd, rfl⟩⟩))
 go_upto_region 7 with (fail)
 obtain ⟨G, hG⟩ : ∃ G, w.heap.size = G := ⟨_, rfl⟩
 obtain ⟨W1, hW1⟩ : ∃ W1, (w.drewN nd).alloc (.cells (rowB (repBs b m 0)).toArray 42) = W1 := ⟨_, rfl⟩
 have hB1 : Below G w W1 := by rw [← hW1, ← hG]; exact below_alloc (pw_below_drewN (Below.refl _ _) nd) _
 have hg1 : W1.heap[G]? = some (.cells (rowB (repBs b m 0)).toArray 42 (0, 0)) := by
  rw [← hW1]
  have h := heap_alloc_new (w.drewN nd) (.cells (rowB (repBs b m 0)).toArray 42)
  rw [show (w.drewN nd).heap.size = G from hG] at h
  exact h
 have hr1 : ∀ j u, (bandC b)[j]? = some u → W1.cell? (ad.add j) = some u := fun j u h => (hB1.cell (p := ad.add j) (by rw [← hG, add_block]; exact Had.out)).trans (Hr.out j u h)
 rw [hG, hW1]
 obtain ⟨k0, hk0⟩ : ∃ k0, k0 = Nat.min 1 (m - 0) := ⟨_, rfl⟩
 have hk01 : k0 ≤ m := by rw [hk0]; exact Nat.le_trans (Nat.min_le_right _ _) (by omega)
 have hk02 : k0 ≤ 1 := by rw [hk0]; exact Nat.min_le_left _ _
 have hk03 : 0 < m → 1 ≤ k0 := fun h => by rw [hk0]; exact Nat.le_min.2 ⟨Nat.le_refl _, by omega⟩
 have hcp := copy_repB b m 0 G W1 hg1 ad 1 c k0 (by omega) hk0 (by
  intro j u h
  refine hr1 j u ?_
  rcases Nat.eq_zero_or_pos k0 with e | e
  ·rw [e] at h
   simp [rowB] at h
  ·obtain rfl : k0 = 1 := by omega
   simpa [rowB] using h)
 have hg2 : (W1.setRow G (rowB (repBs b m k0)).toArray).heap[G]? = some (.cells (rowB (repBs b m k0)).toArray 42 (0, 0)) := setRow_heap _ _ _ _ _ _ hg1
 have hB2 := Lib.hid (below_setRow hB1 (Nat.le_refl _) (rowB (repBs b m k0)).toArray)
 simp only [Nat.zero_add, Nat.sub_zero, Nat.zero_mul] at hcp
 clear hW1 hr1 hg1 hB1 hmk t1 t2 Hm hk0
 go_upto_region 8 with (fail)
 generalize W1.setRow G (rowB (repBs b m k0)).toArray = W2 at hg2 hB2 ⊢
 clear hcp
 go_loopw [8] (fun n wr => ∃ k : Nat, (0 < m → 1 ≤ k) ∧ k ≤ m ∧ n = .int .i64 k ∧ wr.heap[G]? = some (.cells (rowB (repBs b m k)).toArray 42 (0, 0)) ∧ Hid (Below G w wr)) (fun n _ => m - (intOf n).toNat)
 case atStart => exact ⟨k0, hk03, hk01, rfl, hg2, hB2⟩
 case round =>
  obtain ⟨k, hk1, hk2, rfl, hgk, hBk⟩ := hrel
  by_cases hlt : k < m
  ·have hk1' := hk1 (by omega)
   obtain ⟨e, he⟩ : ∃ e, e = Nat.min k (m - k) := ⟨_, rfl⟩
   have he1 : e ≤ k := by rw [he]; exact Nat.min_le_left _ _
   have he2 : e ≤ m - k := by rw [he]; exact Nat.min_le_right _ _
   have he3 : 1 ≤ e := by rw [he]; exact Nat.le_min.2 ⟨hk1', by omega⟩
   have hcp := copy_repB b m k G wr.drew hgk ⟨G, 0, none⟩ k m e (by omega) he (by
    intro j u h
    have hj : j < e * 4 := by
     have := (List.getElem?_eq_some_iff.1 h).1
     rw [rowB_length, List.length_replicate] at this
     exact this
    rw [add_plain, cell_drew_own, blk_cell hgk]
    have e1 : repBs b m k = List.replicate e b ++ (List.replicate (k - e) b ++ List.replicate (m - k) z42) := by
     unfold repBs
     rw [← List.append_assoc, List.replicate_append_replicate, show e + (k - e) = k by omega]
    rw [e1, rowB_append, List.getElem?_toArray, List.getElem?_append_left (by rw [rowB_length, List.length_replicate]; exact hj)]
    exact h)
   have hcp' := hcp (m - k)
   clear hcp
   have h0 : (0 : Int) ≤ (k : Int) := by omega
   have h1 : (k : Int) ≤ (m : Int) := by omega
   clear he hk1
   go_wp2
   go_region
   go_roundw
   case rel => exact ⟨_, _, _, _, _, _, _, _, _, _, _, _, _, _, ⟨k + e, fun _ => by omega, by omega, by go_num, setRow_heap _ _ _ _ _ _ hgk, Lib.hid (below_setRow (below_drew hBk.out) (Nat.le_refl _) _)⟩, rfl⟩
   case measure => simp [intOf]; omega
  ·obtain rfl : k = m := by omega
   clear hk1
   go_wp2
   go_ret
   have e1 : repBs b k k = List.replicate k b := by unfold repBs; rw [Nat.sub_self]; simp
   rw [e1] at hgk
   refine ⟨_, rfl, ⟨fun _ _ => trivial, rowB (List.replicate k b), ⟨by rw [rowB_length]; rfl, .inr ⟨G, k, (rowB (List.replicate k b)).toArray, by rw [List.length_replicate]; rfl, by omega, hgk, by rw [List.length_replicate]; exact Nat.le_refl _, by unfold maxLen; omega, by rw [List.size_toArray, rowB_length, List.length_replicate]; rfl, by rw [List.take_of_length_le (by show (rowB (List.replicate k b)).length ≤ _; rw [rowB_length]; exact Nat.le_refl _)]⟩⟩, ?_⟩, ?_⟩
   ·exact (rowB_reps _).imp_ (fun p c hp => by rw [hp]; exact k42_mkM _ _ _ p)
   ·rw [hG]
    exact hBk.out
end

end Go.Proofs.Ytpoboffdlnnbmaa.PA
