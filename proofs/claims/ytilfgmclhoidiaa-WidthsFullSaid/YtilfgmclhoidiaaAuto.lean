/- Automatic widths: what the program answers. Condition: at most 100 bands, of numbers of 64 bits. -/
import Derived.Test.YtilfgmclhoidiaaPAx15
import Derived.Test.YtilfgmclhoidiaaBands
import Derived.Test.YtilfgmclhoidiaaGive
namespace Go.Proofs.Ytilfgmclhoidiaa.Base
open Go.RowKit Go.Proofs.Ytilfgmclhoidiaa.PA Go.Proofs.YtilfgmclhoidiaaW.PrintWords Go.Proofs.YtilfgmclhoidiaaW.PrintLast Go.Proofs.YtilfgmclhoidiaaW.PrintMore Go.Proofs.Ytilfgmclhoidiaa.Pure
def partV (a b : Int) : Int := mn (a * b / 10000) 9223372036854775807
/-- What a band wishes. -/
def wishOf (t : Int) (b : S35) : Int := if b.f2 < 0 then b.f1 else mx (mn (partV b.f2 t) t) b.f0
theorem wish_bound (t : Int) (b : S35) (hb : Okb b) (ht : t ≤ 576460752303423488) : b.f0 ≤ wishOf t b ∧ wishOf t b ≤ 576460752303423488 := by
  obtain ⟨h1, h2, h3, h4, h5, h6, h7, h8⟩ := hb
  unfold wishOf
  split
  · omega
  · unfold mx mn
    (repeat' split) <;> omega
theorem wish_prog (t : Int) (b : S35) (hb : Okb b) (ht0 : 0 ≤ t) (ht : t ≤ 576460752303423488) : Ev (fun k => widths_wish.f k b.f0 b.f1 b.f2 b.f3 t) (wishOf t b) := by
  obtain ⟨h1, h2, h3, h4, h5, h6, h7, h8⟩ := hb
  unfold widths_wish.f style_Wanted.f wishOf
  by_cases c : b.f2 < 0
  · rw [if_pos c]
    have hp : Ev (fun k => fixed_Part.f k b.f2 t) 0 := by
      unfold fixed_Part.f
      refine Base.Ev.pos c (Ev.step (f := fun k => _) (fun k => by rw [fixed_Part.j0]) ?_)
      exact Base.Ev.pos rfl (Base.Ev.val rfl)
    refine Ev.bind (a := 0) (Base.Ev.neg (by decide) (Base.Ev.pos rfl (Base.Ev.pos ht0 (Ev.bind hp (Base.Ev.val rfl))))) ?_
    exact Base.Ev.pos c (Base.Ev.val rfl)
  · rw [if_neg c]
    have hp := part_ev b.f2 t ⟨by omega, by omega⟩ ⟨ht0, by omega⟩
    refine Ev.bind (a := partV b.f2 t) (Base.Ev.neg (by decide) (Base.Ev.pos rfl (Base.Ev.pos ht0 (Ev.bind hp (Base.Ev.val rfl))))) ?_
    exact Base.Ev.neg c (Base.Ev.val rfl)
/-- What all wish; what more that is than they need. -/
def wishes (t : Int) (l : List S35) : List Int := l.map (wishOf t)
def mores (t : Int) (l : List S35) : List Int := l.map (fun b => mn (wishOf t b - b.f0) 1125899906842623)
theorem take_map {α β : Type} (f : α → β) (l : List α) (i : Nat) (h : i < l.length) : (l.map f).take (i + 1) = (l.map f).take i ++ [f l[i]] := by
  rw [List.take_succ_eq_append_getElem (by simpa using h)]
  simp
theorem auto_l0 (l : List S35) (hl : l.length ≤ 100) (hk : ∀ b ∈ l, Okb b) (t least : Int) (ht0 : 0 ≤ t) (ht : t ≤ 576460752303423488) (R : List Int × Int)
    (hend : Ev (fun k => (fixed_Add.f (wishes t l)).bind fun t185 => (if t185 ≤ t then ((widths_free.f l).bind fun t186 => (widths_Auto.l1 k l t (wishes t l) ([] : List Int) t185 t186 t186 (t186.length : Int) 0)) else ((fixed_Share.f (wrap64 (t - least)) (mores t l)).bind fun bt202 => (widths_Auto.l3 k (wishes t l) bt202.1 l (l.length : Int) 0)))) R) :
    ∀ (d i : Nat), i + d = l.length → Ev (fun k => widths_Auto.l0 k l t least ((wishes t l).take i) ((mores t l).take i) l (l.length : Int) (i : Int)) R
  | 0, i, h => by
    refine Ev.step (f := fun k => _) (fun k => by rw [widths_Auto.l0]) ?_
    rw [List.take_of_length_le (by unfold wishes; simp; omega), List.take_of_length_le (by unfold mores; simp; omega)]
    exact Base.Ev.neg (by omega) hend
  | d + 1, i, h => by
    have hi : i < l.length := by omega
    have ho := hk l[i] (List.getElem_mem hi)
    have hw := wish_prog t l[i] ho ht0 ht
    have hb := wish_bound t l[i] ho ht
    have h0 := ho.min0
    have ih := auto_l0 l hl hk t least ht0 ht R hend d (i + 1) (by omega)
    have e1 : (wishes t l).take (i + 1) = (wishes t l).take i ++ [wishOf t l[i]] := take_map _ l i hi
    have e2 : (mores t l).take (i + 1) = (mores t l).take i ++ [mn (wishOf t l[i] - l[i].f0) 1125899906842623] := take_map _ l i hi
    have e3 : wrap64 (wishOf t l[i] - l[i].f0) = wishOf t l[i] - l[i].f0 := wrap_id (by omega) (by omega)
    rw [e1, e2] at ih
    refine Ev.step (f := fun k => _) (fun k => by rw [widths_Auto.l0, rdT l i hi, next (by omega)]) ?_
    refine Base.Ev.pos (by omega) (Base.Ev.pos (by omega) (Base.Ev.pos (by omega) (Ev.bind hw ?_)))
    rw [e3]
    exact Base.Ev.pos (by rw [List.length_take]; omega) (Base.Ev.pos (by rw [List.length_take]; omega) ih)
/-! Who is free. -/
def inB (l : List S35) (b : S35) : Bool := if l.any (condP 0) = true then condP 0 b else if l.any (condP 1) = true then condP 1 b else true
def ins (l : List S35) : List Bool := l.map (inB l)
theorem hits_pos (i : Nat) (l : List S35) : hitNums (hits i l) = (pos (l.map (condP i))).map (fun n : Nat => (n : Int)) := by
  rw [← pos_filter (condP i) l]
  unfold hitNums hits hitsTo
  rw [List.take_of_length_le (by simp), List.map_map]
  rfl
theorem hits_none (i : Nat) (l : List S35) : hits i l = [] ↔ ¬ l.any (condP i) = true := by
  unfold hits hitsTo
  rw [List.take_of_length_le (by simp), List.filter_eq_nil_iff]
  constructor
  · intro h hany
    obtain ⟨b, hb, hp⟩ := List.any_eq_true.1 hany
    obtain ⟨j, hj, e⟩ := List.mem_iff_getElem.1 hb
    exact h ⟨j, hj⟩ (by simp) (by rw [e]; exact hp)
  · intro h x _ hp
    exact h (List.any_eq_true.2 ⟨_, List.getElem_mem x.2, hp⟩)
theorem free_eq (l : List S35) : freeOut l = (pos (ins l)).map (fun n : Nat => (n : Int)) := by
  unfold freeOut ins
  by_cases c0 : l.any (condP 0) = true
  · rw [if_pos (by rw [ne_eq, hits_none]; simpa using c0), hits_pos]
    congr 3
    funext b
    unfold inB
    rw [if_pos c0]
  · rw [if_neg (by rw [ne_eq, hits_none]; simpa using c0)]
    by_cases c1 : l.any (condP 1) = true
    · rw [if_pos (by rw [ne_eq, hits_none]; simpa using c1), hits_pos]
      congr 3
      funext b
      unfold inB
      rw [if_neg c0, if_pos c1]
    · rw [if_neg (by rw [ne_eq, hits_none]; simpa using c1), hits_pos]
      congr 3
      funext b
      unfold inB
      rw [if_neg c0, if_neg c1]
      rfl
theorem pos_any : ∀ (b : List Bool), b.any id = true → pos b ≠ []
  | [], h => by simp at h
  | true :: r, _ => by simp [pos]
  | false :: r, h => by
    have := pos_any r (by simpa using h)
    simpa [pos] using this
theorem ins_some (l : List S35) (h : l ≠ []) : pos (ins l) ≠ [] := by
  apply pos_any
  unfold ins
  rw [List.any_map]
  by_cases c0 : l.any (condP 0) = true
  · obtain ⟨b, hb, hp⟩ := List.any_eq_true.1 c0
    refine List.any_eq_true.2 ⟨b, hb, ?_⟩
    show inB l b = true
    unfold inB
    rw [if_pos c0]
    exact hp
  · by_cases c1 : l.any (condP 1) = true
    · obtain ⟨b, hb, hp⟩ := List.any_eq_true.1 c1
      refine List.any_eq_true.2 ⟨b, hb, ?_⟩
      show inB l b = true
      unfold inB
      rw [if_neg c0, if_pos c1]
      exact hp
    · match l, h with
      | b :: l, _ =>
        refine List.any_eq_true.2 ⟨b, by simp, ?_⟩
        show inB (b :: l) b = true
        unfold inB
        rw [if_neg c0, if_neg c1]
/-- The weights of those that are free. -/
def wts (l : List S35) : List Int := (pos (ins l)).map (fun n => (l[n]?.getD z35).f1)
theorem rd_map (l : List Nat) (k : Nat) (h : k < l.length) : rd (l.map (fun n : Nat => (n : Int))) (k : Int) = (l[k] : Nat) := by
  rw [rd_nat]
  simp [h]
theorem auto_l1 (l : List S35) (hl : l.length ≤ 100) (t S : Int) (ws : List Int) (R : List Int × Int)
    (hend : Ev (fun k => (fixed_Share.f (wrap64 (t - S)) (wts l)).bind fun bt194 => (widths_Auto.l2 k ws bt194.1 (freeOut l) ((freeOut l).length : Int) 0)) R) :
    ∀ (d i : Nat), i + d = (pos (ins l)).length → Ev (fun k => widths_Auto.l1 k l t ws ((wts l).take i) S (freeOut l) (freeOut l) ((freeOut l).length : Int) (i : Int)) R
  | 0, i, h => by
    have hfl : (freeOut l).length = (pos (ins l)).length := by rw [free_eq]; simp
    refine Ev.step (f := fun k => _) (fun k => by rw [widths_Auto.l1]) ?_
    rw [List.take_of_length_le (by unfold wts; simp; omega)]
    exact Base.Ev.neg (by omega) hend
  | d + 1, i, h => by
    have hfl : (freeOut l).length = (pos (ins l)).length := by rw [free_eq]; simp
    have hi : i < (pos (ins l)).length := by omega
    have hn := pos_lt (ins l) _ (List.getElem_mem hi)
    have hil : (ins l).length = l.length := by simp [ins]
    have hpl := pos_length_le (ins l)
    have ih := auto_l1 l hl t S ws R hend d (i + 1) (by omega)
    have er : rd (freeOut l) (i : Int) = ((pos (ins l))[i] : Nat) := by rw [free_eq]; exact rd_map _ i hi
    have e1 : (wts l).take (i + 1) = (wts l).take i ++ [(l[(pos (ins l))[i]]'(by omega)).f1] := by
      unfold wts
      rw [take_map _ _ i hi, List.getElem?_eq_getElem (show (pos (ins l))[i] < l.length by omega)]
      rfl
    rw [e1] at ih
    refine Ev.step (f := fun k => _) (fun k => by rw [widths_Auto.l1, er, rdT l _ (by omega), next (by omega)]) ?_
    exact Base.Ev.pos (by omega) (Base.Ev.pos (by omega) (Base.Ev.pos (by omega) (Base.Ev.pos (by omega) (Base.Ev.pos (by omega) (Base.Ev.pos (by rw [List.length_take]; omega) ih)))))
theorem getD_mem (l : List Int) (i : Nat) (h : i < l.length) : l[i]?.getD 0 ∈ l := by
  rw [List.getElem?_eq_getElem h]
  exact List.getElem_mem h
theorem auto_l2 (l : List S35) (hl : l.length ≤ 100) (ws o : List Int) (hws : ws.length = l.length) (ho : o.length = (pos (ins l)).length) (A B : Int) (hA : ∀ x ∈ ws, 0 ≤ x ∧ x ≤ A) (hB : ∀ x ∈ o, 0 ≤ x ∧ x ≤ B) (hB0 : 0 ≤ B) (hAB : A + B + B ≤ 9223372036854775807) :
    ∀ (d i : Nat), i + d = (pos (ins l)).length → Ev (fun k => widths_Auto.l2 k (giveOn (ins l) ws (o.take i)) o (freeOut l) ((freeOut l).length : Int) (i : Int)) (giveOn (ins l) ws o, 0)
  | 0, i, h => by
    have hfl : (freeOut l).length = (pos (ins l)).length := by rw [free_eq]; simp
    refine Ev.step (f := fun k => _) (fun k => by rw [widths_Auto.l2]) ?_
    rw [List.take_of_length_le (by omega)]
    exact Base.Ev.neg (by omega) (Base.Ev.val rfl)
  | d + 1, i, h => by
    have hfl : (freeOut l).length = (pos (ins l)).length := by rw [free_eq]; simp
    have hi : i < (pos (ins l)).length := by omega
    have hn := pos_lt (ins l) _ (List.getElem_mem hi)
    have hil : (ins l).length = l.length := by simp [ins]
    have hpl := pos_length_le (ins l)
    have ih := auto_l2 l hl ws o hws ho A B hA hB hB0 hAB d (i + 1) (by omega)
    have er : rd (freeOut l) (i : Int) = ((pos (ins l))[i] : Nat) := by rw [free_eq]; exact rd_map _ i hi
    have hgl := giveOn_length (ins l) ws (o.take i)
    have hst := giveOn_step (ins l) ws o i (by omega) (by omega) (by omega)
    have hgb := giveOn_bound A B (ins l) ws (o.take i) hA (fun x hx => hB x (List.mem_of_mem_take hx)) hB0
    rw [List.getElem?_eq_getElem hi, Option.getD_some] at hst
    have hx := hgb _ (getD_mem (giveOn (ins l) ws (o.take i)) (pos (ins l))[i] (by omega))
    have hy := hB _ (getD_mem o i (by omega))
    have e2 : wrap64 (rd (giveOn (ins l) ws (o.take i)) ((pos (ins l))[i] : Nat) + rd o (i : Int)) = (giveOn (ins l) ws (o.take i))[(pos (ins l))[i]]?.getD 0 + o[i]?.getD 0 := by
      rw [rd_nat, rd_nat]
      exact wrap_id (by omega) (by omega)
    rw [← hst, ← e2] at ih
    refine Ev.step (f := fun k => _) (fun k => by rw [widths_Auto.l2, er, Int.toNat_natCast, next (by omega)]) ?_
    exact Base.Ev.pos (by omega) (Base.Ev.pos (by omega) (Base.Ev.pos (by omega) (Base.Ev.pos (by omega) (Base.Ev.pos (by omega) (Base.Ev.pos (by omega) ih)))))
/-- Where all wish for too much. -/
def baseAdd (l : List S35) (o : List Int) : List Int := (mins l).zipWith (· + ·) o
theorem auto_l3 (l : List S35) (hl : l.length ≤ 100) (hk : ∀ b ∈ l, Okb b) (ws o : List Int) (hws : ws.length = l.length) (ho : o.length = l.length) (B : Int) (hB : ∀ x ∈ o, 0 ≤ x ∧ x ≤ B) (hB2 : B ≤ 1152921504606846976) :
    ∀ (d i : Nat), i + d = l.length → Ev (fun k => widths_Auto.l3 k ((baseAdd l o).take i ++ ws.drop i) o l (l.length : Int) (i : Int)) (baseAdd l o, 0)
  | 0, i, h => by
    have hbl : (baseAdd l o).length = l.length := by simp [baseAdd, mins]; omega
    refine Ev.step (f := fun k => _) (fun k => by rw [widths_Auto.l3]) ?_
    rw [List.take_of_length_le (by omega), List.drop_of_length_le (by omega), List.append_nil]
    exact Base.Ev.neg (by omega) (Base.Ev.val rfl)
  | d + 1, i, h => by
    have hbl : (baseAdd l o).length = l.length := by simp [baseAdd, mins]; omega
    have hi : i < l.length := by omega
    have ih := auto_l3 l hl hk ws o hws ho B hB hB2 d (i + 1) (by omega)
    have hob := hk l[i] (List.getElem_mem hi)
    have hy := hB _ (getD_mem o i (by omega))
    have h0 := hob.min0
    have h1 := hob.minmax
    have h2 := hob.max
    have ev : (baseAdd l o)[i]'(by omega) = l[i].f0 + o[i] := by simp [baseAdd, mins]
    have e2 : wrap64 (l[i].f0 + rd o (i : Int)) = l[i].f0 + o[i] := by
      rw [rd_nat, List.getElem?_eq_getElem (by omega), Option.getD_some]
      rw [List.getElem?_eq_getElem (by omega), Option.getD_some] at hy
      exact wrap_id (by omega) (by omega)
    have hst : ((baseAdd l o).take i ++ ws.drop i).set i (l[i].f0 + o[i]) = (baseAdd l o).take (i + 1) ++ ws.drop (i + 1) := by
      rw [List.drop_eq_getElem_cons (show i < ws.length by omega), List.set_append_right _ _ (by rw [List.length_take]; omega), List.length_take, Nat.min_eq_left (by omega), Nat.sub_self, List.set_cons_zero, List.take_succ_eq_append_getElem (show i < (baseAdd l o).length by omega), ev, List.append_assoc]
      rfl
    rw [← hst] at ih
    refine Ev.step (f := fun k => _) (fun k => by rw [widths_Auto.l3, rdT l i hi, e2, Int.toNat_natCast, next (by omega)]) ?_
    refine Base.Ev.pos (by omega) (Base.Ev.pos (by omega) (Base.Ev.pos (by omega) (Base.Ev.pos (by omega) (Base.Ev.pos ?_ ih))))
    rw [List.length_append, List.length_take, List.length_drop]
    omega
/-! The whole. -/
def autoOk (l : List S35) (t : Int) : Prop := l ≠ [] ∧ bandsOk l = true ∧ (sums3 l).1 ≤ t ∧ t ≤ 576460752303423488
instance (l : List S35) (t : Int) : Decidable (autoOk l t) := by unfold autoOk; infer_instance
/-- Automatic widths: a. -/
inductive AutoIs (l : List S35) (t : Int) (a : List Int) : Prop where
  | some (o : List Int) (le : (wishes t l).sum ≤ t) (eq : fixed_Share.f (t - (wishes t l).sum) (wts l) = some (o, 0)) (fair : Fair (t - (wishes t l).sum) (wts l) o) (is : a = giveOn (ins l) (wishes t l) o)
  | few (o : List Int) (gt : t < (wishes t l).sum) (eq : fixed_Share.f (t - (mins l).sum) (mores t l) = some (o, 0)) (fair : Fair (t - (mins l).sum) (mores t l) o) (is : a = baseAdd l o)
theorem sum_of_bound (l : List Int) (M : Int) (h : ∀ x ∈ l, 0 ≤ x ∧ x ≤ M) : 0 ≤ l.sum ∧ l.sum ≤ l.length * M := ⟨sum_nonneg l (fun x hx => (h x hx).1), sum_le M l (fun x hx => (h x hx).2)⟩
theorem mins_bound (l : List S35) (hk : ∀ b ∈ l, Okb b) : ∀ x ∈ mins l, 0 ≤ x ∧ x ≤ 1125899906842623 := by
  intro x hx
  obtain ⟨b, hb, rfl⟩ := List.mem_map.1 hx
  have := hk b hb
  exact ⟨this.min0, by have := this.minmax; have := (hk b hb).max; omega⟩
theorem maxs_bound (l : List S35) (hk : ∀ b ∈ l, Okb b) : ∀ x ∈ maxs l, 0 ≤ x ∧ x ≤ 1125899906842623 := by
  intro x hx
  obtain ⟨b, hb, rfl⟩ := List.mem_map.1 hx
  have := hk b hb
  exact ⟨by have := this.minmax; have := (hk b hb).min0; omega, this.max⟩
theorem wishes_bound (t : Int) (l : List S35) (hk : ∀ b ∈ l, Okb b) (ht : t ≤ 576460752303423488) : ∀ x ∈ wishes t l, 0 ≤ x ∧ x ≤ 576460752303423488 := by
  intro x hx
  obtain ⟨b, hb, rfl⟩ := List.mem_map.1 hx
  have h := hk b hb
  have := wish_bound t b h ht
  have := h.min0
  omega
theorem mores_good (t : Int) (l : List S35) (hk : ∀ b ∈ l, Okb b) (ht : t ≤ 576460752303423488) : goodW (mores t l) := by
  intro x hx
  obtain ⟨b, hb, rfl⟩ := List.mem_map.1 hx
  have h := hk b hb
  have := wish_bound t b h ht
  show 0 ≤ mn (wishOf t b - b.f0) 1125899906842623 ∧ mn (wishOf t b - b.f0) 1125899906842623 ≤ 1125899906842623
  unfold mn
  split <;> omega
theorem wts_good (l : List S35) (hk : ∀ b ∈ l, Okb b) : goodW (wts l) := by
  intro x hx
  obtain ⟨n, hn, rfl⟩ := List.mem_map.1 hx
  have hlt := pos_lt (ins l) n hn
  have hil : (ins l).length = l.length := by simp [ins]
  rw [List.getElem?_eq_getElem (show n < l.length by omega), Option.getD_some]
  have h := hk _ (List.getElem_mem (show n < l.length by omega))
  exact ⟨by have := h.minmax; have := h.min0; omega, h.max⟩
theorem sum_min (l : List S35) (hl : l.length ≤ 100) (hk : ∀ b ∈ l, Okb b) : (sums3 l).1 = (mins l).sum ∧ 0 ≤ (mins l).sum := by
  have h := sum_of_bound (mins l) _ (mins_bound l hk)
  have hlen : (mins l).length = l.length := by simp [mins]
  refine ⟨?_, h.1⟩
  show sSum (mins l) 0 = _
  rw [sSum_plain (mins l) 0 (Int.le_refl _) (fun x hx => (mins_bound l hk x hx).1) (by have := h.2; rw [hlen] at this; omega), Int.zero_add]
theorem sum_max (l : List S35) (hl : l.length ≤ 100) (hk : ∀ b ∈ l, Okb b) : (sums3 l).2.1 = (maxs l).sum ∧ 0 ≤ (maxs l).sum ∧ (maxs l).sum ≤ 112589990684262300 := by
  have h := sum_of_bound (maxs l) _ (maxs_bound l hk)
  have hlen : (maxs l).length = l.length := by simp [maxs]
  have h2 : (maxs l).sum ≤ 112589990684262300 := by have := h.2; rw [hlen] at this; omega
  refine ⟨?_, h.1, h2⟩
  show sSum (maxs l) 0 = _
  rw [sSum_plain (maxs l) 0 (Int.le_refl _) (fun x hx => (maxs_bound l hk x hx).1) (by omega), Int.zero_add]
/-- A saturated sum of many, told by the plain one. -/
theorem add_plain (l : List Int) (h : ∀ x ∈ l, 0 ≤ x ∧ x ≤ 9223372036854775807) : ∃ v, fixed_Add.f l = some v ∧ (v = l.sum ∨ (v = 9223372036854775807 ∧ 9223372036854775807 ≤ l.sum)) := by
  suffices k : ∀ (l : List Int) (s : Int), 0 ≤ s → s ≤ 9223372036854775807 → (∀ x ∈ l, 0 ≤ x ∧ x ≤ 9223372036854775807) → l.foldl addStep s = mn (s + l.sum) 9223372036854775807 by
    refine ⟨_, rfl, ?_⟩
    have := k l 0 (Int.le_refl _) (by omega) h
    unfold addOut
    rw [this]
    unfold mn
    split <;> omega
  intro l
  induction l with
  | nil =>
    intro s _ h1 _
    show s = _
    unfold mn
    simp
    omega
  | cons a l ih =>
    intro s h0 h1 h
    have ha := h a (by simp)
    have hl := sum_nonneg l (fun x hx => (h x (by simp [hx])).1)
    rw [List.foldl_cons, List.sum_cons, step_sat s a (by unfold i64; omega) (by unfold i64; omega)]
    have hs : 0 ≤ sat (s + a) ∧ sat (s + a) ≤ 9223372036854775807 ∧ sat (s + a) = mn (s + a) 9223372036854775807 := by
      unfold sat mn
      (repeat' split) <;> omega
    rw [ih (sat (s + a)) hs.1 hs.2.1 (fun x hx => h x (by simp [hx])), hs.2.2]
    unfold mn
    (repeat' split) <;> omega
theorem auto_no (l : List S35) (t S : Int) : Ev (fun k => widths_Auto.j0 k l t S true) ([], 130) := by
  refine Ev.step (f := fun k => _) (fun k => by rw [widths_Auto.j0]) ?_
  exact Base.Ev.pos rfl (Base.Ev.val rfl)
theorem auto_yes (l : List S35) (hl : l.length ≤ 100) (t : Int) (h : autoOk l t) : ∃ a, Ev (fun k => widths_Auto.j0 k l t (sums3 l).1 false) (a, 0) ∧ AutoIs l t a ∧ a.length = l.length := by
  obtain ⟨hne, hok, hle, ht⟩ := h
  have hk := bandsOk_mem hok
  obtain ⟨hm1, hm2⟩ := sum_min l hl hk
  rw [hm1] at hle ⊢
  have ht0 : 0 ≤ t := by omega
  have hlen : 0 < l.length := List.length_pos_iff.2 hne
  have hwb := wishes_bound t l hk ht
  have hwl : (wishes t l).length = l.length := by simp [wishes]
  have hml : (mores t l).length = l.length := by simp [mores]
  have hpl := pos_length_le (ins l)
  have hil : (ins l).length = l.length := by simp [ins]
  have hpp : 0 < (pos (ins l)).length := List.length_pos_iff.2 (ins_some l hne)
  have hwtl : (wts l).length = (pos (ins l)).length := by simp [wts]
  have hfl : (freeOut l).length = (pos (ins l)).length := by rw [free_eq]; simp
  obtain ⟨v, hv, hv2⟩ := add_plain (wishes t l) (fun x hx => by have := hwb x hx; omega)
  have hstart : ∀ (R : List Int × Int), Ev (fun k => (fixed_Add.f (wishes t l)).bind fun t185 => (if t185 ≤ t then ((widths_free.f l).bind fun t186 => (widths_Auto.l1 k l t (wishes t l) ([] : List Int) t185 t186 t186 (t186.length : Int) 0)) else ((fixed_Share.f (wrap64 (t - (mins l).sum)) (mores t l)).bind fun bt202 => (widths_Auto.l3 k (wishes t l) bt202.1 l (l.length : Int) 0)))) R → Ev (fun k => widths_Auto.j0 k l t (mins l).sum false) R := by
    intro R hend
    refine Ev.step (f := fun k => _) (fun k => by rw [widths_Auto.j0]) ?_
    exact Base.Ev.neg (by simp) (auto_l0 l hl hk t (mins l).sum ht0 ht R hend l.length 0 (by omega))
  have hfree : widths_free.f l = some (freeOut l) := by unfold widths_free.f; rw [if_pos (by omega)]
  by_cases c : (wishes t l).sum ≤ t
  · have ev : v = (wishes t l).sum := by omega
    subst ev
    obtain ⟨o, ho, fo⟩ := share_ok (t - (wishes t l).sum) (wts l) ⟨by omega, by have := sum_nonneg (wishes t l) (fun x hx => (hwb x hx).1); omega, by omega, by omega⟩ (wts_good l hk)
    have hsn := sum_nonneg (wishes t l) (fun x hx => (hwb x hx).1)
    have hol : o.length = (pos (ins l)).length := by rw [fo.len, hwtl]
    refine ⟨giveOn (ins l) (wishes t l) o, hstart _ ?_, .some o c ho fo rfl, by rw [giveOn_length, hwl]⟩
    refine Ev.bind ⟨0, fun _ _ => hv⟩ (Base.Ev.pos c (Ev.bind ⟨0, fun _ _ => hfree⟩ ?_))
    refine auto_l1 l hl t (wishes t l).sum (wishes t l) _ ?_ (pos (ins l)).length 0 (by omega)
    rw [wrap_id (n := t - (wishes t l).sum) (by omega) (by omega)]
    refine Ev.bind ⟨0, fun _ _ => ho⟩ ?_
    have hl2 := auto_l2 l hl (wishes t l) o hwl hol 576460752303423488 576460752303423488 hwb (fun x hx => by have := fo.pos x hx; omega) (by omega) (by omega) (pos (ins l)).length 0 (by omega)
    rw [List.take_zero, giveOn_nil] at hl2
    exact hl2
  · have hnv : ¬ v ≤ t := by omega
    obtain ⟨o, ho, fo⟩ := share_ok (t - (mins l).sum) (mores t l) ⟨by omega, by omega, by omega, by omega⟩ (mores_good t l hk ht)
    have hol : o.length = l.length := by rw [fo.len, hml]
    refine ⟨baseAdd l o, hstart _ ?_, .few o (by omega) ho fo rfl, by simp [baseAdd, mins]; omega⟩
    refine Ev.bind ⟨0, fun _ _ => hv⟩ (Base.Ev.neg hnv ?_)
    rw [wrap_id (n := t - (mins l).sum) (by omega) (by omega)]
    refine Ev.bind ⟨0, fun _ _ => ho⟩ ?_
    exact auto_l3 l hl hk (wishes t l) o hwl hol 576460752303423488 (fun x hx => by have := fo.pos x hx; omega) (by omega) l.length 0 (by omega)
theorem auto_prog (l : List S35) (hl : l.length ≤ 100) (hg : ∀ b ∈ l, good35 b) (t : Int) :
    (¬ autoOk l t ∧ Ev (fun k => widths_Auto.f k l t) ([], 130)) ∨ (autoOk l t ∧ ∃ a, Ev (fun k => widths_Auto.f k l t) (a, 0) ∧ AutoIs l t a ∧ a.length = l.length) := by
  have hs := sums_prog l (by omega) hg
  have hr := right_prog l (by omega)
  by_cases c : autoOk l t
  · obtain ⟨a, ha, hi, hal⟩ := auto_yes l hl t c
    obtain ⟨hne, hok, hle, ht⟩ := c
    refine .inr ⟨⟨hne, hok, hle, ht⟩, a, ?_, hi, hal⟩
    have hlen : 0 < l.length := List.length_pos_iff.2 hne
    unfold widths_Auto.f
    refine Ev.bind hs (Base.Ev.neg (by omega) (Ev.bind ⟨0, fun _ _ => hr⟩ (Base.Ev.pos hok (Base.Ev.neg (by omega) ?_))))
    rw [decide_eq_false (by omega : ¬ t > 576460752303423488)]
    exact ha
  · refine .inl ⟨c, ?_⟩
    unfold widths_Auto.f
    refine Ev.bind hs ?_
    by_cases c0 : (l.length : Int) = 0
    · exact Base.Ev.pos c0 (auto_no _ _ _)
    refine Base.Ev.neg c0 (Ev.bind ⟨0, fun _ _ => hr⟩ ?_)
    by_cases c1 : bandsOk l = true
    · refine Base.Ev.pos c1 ?_
      by_cases c2 : t < (sums3 l).1
      · exact Base.Ev.pos c2 (auto_no _ _ _)
      · refine Base.Ev.neg c2 ?_
        have c3 : t > 576460752303423488 := by
          have hnn : l ≠ [] := fun e => c0 (by rw [e]; rfl)
          by_cases c4 : t ≤ 576460752303423488
          · exact absurd ⟨hnn, c1, by omega, c4⟩ c
          · omega
        rw [decide_eq_true c3]
        exact auto_no _ _ _
    · exact Base.Ev.neg c1 (auto_no _ _ _)
end Go.Proofs.Ytilfgmclhoidiaa.Base
