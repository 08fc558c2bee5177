/- FixedSums: with enough rounds the check says true at all numbers: sums, differences, products, shares and bounds are the document's. No condition. -/
import Derived.Test.YtoblfbpigajjcaaPAx13
import Derived.Test.YtoblfbpigajjcaaTwo
namespace Go.Proofs.Ytoblfbpigajjcaa.PureSums
open Go.RowKit Go.Proofs.Ytoblfbpigajjcaa.PA Go.Proofs.YtoblfbpigajjcaaW.PrintWords Go.Proofs.YtoblfbpigajjcaaW.PrintLast Go.Proofs.YtoblfbpigajjcaaW.PrintMore Go.Proofs.Ytoblfbpigajjcaa.Base
def i64 (n : Int) : Prop := -9223372036854775808 ≤ n ∧ n ≤ 9223372036854775807
/-- What a saturated sum is. -/
def sat (n : Int) : Int := if n < -9223372036854775808 then -9223372036854775808 else if n > 9223372036854775807 then 9223372036854775807 else n
theorem bne_of {p q : Prop} [Decidable p] [Decidable q] : ((decide p != decide q) = true) ↔ ¬ (p ↔ q) := by
  by_cases hp : p <;> by_cases hq : q <;> simp [hp, hq]
theorem step_sat (s x : Int) (hs : i64 s) (hx : i64 x) : addStep s x = sat (s + x) := by
  unfold addStep sat wrap64
  unfold i64 at *
  simp only [bne_of]
  (repeat' split) <;> omega
theorem sub_eq (a b : Int) (ha : i64 a) (hb : i64 b) : fixed_Sub.f a b = some (sat (a - b)) := by
  unfold fixed_Sub.f fixed_edge.f
  unfold i64 at *
  by_cases c1 : a - b < -9223372036854775808
  · have e : wrap64 (a - b) = a - b + 18446744073709551616 := by unfold wrap64; omega
    rw [e, decide_eq_false (by omega : ¬ a - b + 18446744073709551616 < a), decide_eq_true (by omega : b > 0), if_pos (by decide : (false != true) = true), if_neg (by omega), if_pos rfl]
    unfold sat
    rw [if_pos c1]
    rfl
  · by_cases c2 : a - b > 9223372036854775807
    · have e : wrap64 (a - b) = a - b - 18446744073709551616 := by unfold wrap64; omega
      rw [e, decide_eq_true (by omega : a - b - 18446744073709551616 < a), decide_eq_false (by omega : ¬ b > 0), if_pos (by decide : (true != false) = true), if_neg (by omega), if_neg (by simp)]
      unfold sat
      rw [if_neg c1, if_pos c2]
      rfl
    · have e : wrap64 (a - b) = a - b := by unfold wrap64; omega
      have ed : decide (a - b < a) = decide (b > 0) := by rw [decide_eq_decide]; omega
      rw [e, ed, if_neg (by simp)]
      unfold sat
      rw [if_neg c1, if_neg c2]
theorem bare_eq (a : Int) (ha : i64 a) : fixed_bare.f a = some (if a < 0 then -a else a) := by
  unfold fixed_bare.f fixed_signed.f mx
  unfold i64 at *
  by_cases c : a < 0
  · rw [if_pos c, if_pos c, Option.bind_some, w64, w64]
    congr 1
    have e : a % 18446744073709551616 = a + 18446744073709551616 := by omega
    rw [e, if_neg (by omega)]
    omega
  · rw [if_neg c, if_neg c, Option.bind_some, w64, w64]
    congr 1
    split <;> omega
theorem sat_i64 (n : Int) : i64 (sat n) := by
  unfold i64 sat
  (repeat' split) <;> omega
theorem part_ev (a b : Int) (ha : 0 ≤ a ∧ a ≤ 9223372036854775807) (hb : 0 ≤ b ∧ b ≤ 9223372036854775807) : Ev (fun k => fixed_Part.f k a b) (mn (a * b / 10000) 9223372036854775807) := by
  have c1 : ¬ a < 0 := by omega
  have c2 : ¬ b < 0 := by omega
  have h1 : IntKind.u64.wrap a = a := w64_id (by omega) (by omega)
  have h2 : IntKind.u64.wrap b = b := w64_id (by omega) (by omega)
  have hm : bits_Mul64.f a b = some (a * b / 18446744073709551616, a * b % 18446744073709551616) := by
    unfold bits_Mul64.f
    rw [if_pos ⟨⟨by omega, by omega⟩, ⟨by omega, by omega⟩⟩]
  have hp : 0 ≤ a * b := Int.mul_nonneg ha.1 hb.1
  unfold fixed_Part.f
  refine Base.Ev.neg c1 (Ev.step (f := fun k => _) (fun k => by rw [fixed_Part.j0]) ?_)
  rw [h1, h2]
  refine Base.Ev.neg (by simpa using c2) (Ev.bind (a := (a * b / 18446744073709551616, a * b % 18446744073709551616)) ⟨0, fun _ _ => hm⟩ ?_)
  clear hm h1 h2 ha hb
  generalize a * b = p at *
  by_cases c : p / 18446744073709551616 ≥ 10000
  · refine Base.Ev.pos c (Base.Ev.val ?_)
    unfold mn
    rw [if_pos (by omega)]
  · refine Base.Ev.neg c ?_
    have hd := div64_eq (p / 18446744073709551616) (p % 18446744073709551616) 10000 (by omega) (by omega) (by omega) (by omega) (by omega)
    have e : p / 18446744073709551616 * 18446744073709551616 + p % 18446744073709551616 = p := by omega
    rw [e] at hd
    refine Ev.bind (a := (p / 10000, p % 10000)) (Ev.of (bits_Div64.mono _ _ _) (k := 13) hd) (Base.Ev.val ?_)
    have h0 : 0 ≤ p / 10000 := by omega
    refine wrap_id ?_ ?_ <;> (unfold mn; split <;> omega)

theorem cut_eq (l : List Int) : purflinglaw01_cut.f l = some (l.take 200) := by
  unfold purflinglaw01_cut.f mn
  by_cases c : (200 : Int) < (l.length : Int)
  · rw [if_pos c, if_pos (by omega), if_pos (by omega)]
    rfl
  · rw [if_neg c, if_pos (by omega), if_pos (by omega), Int.toNat_natCast, List.take_length, List.take_of_length_le (by omega)]
theorem sum_ev (s x : Int) (hs : i64 s) (hx : i64 x) : Ev (fun k => purflingref01_Sum.f k s x) (sat (s + x)) := by
  unfold i64 at *
  unfold purflingref01_Sum.f
  by_cases c : x > 0
  · refine Base.Ev.pos c (Ev.step (f := fun k => _) (fun k => by rw [purflingref01_Sum.j0]) ?_)
    have e : wrap64 (9223372036854775807 - x) = 9223372036854775807 - x := wrap_id (by omega) (by omega)
    rw [e]
    by_cases c2 : s > 9223372036854775807 - x
    · refine Base.Ev.pos (by simpa using c2) (Base.Ev.val ?_)
      unfold sat
      rw [if_neg (by omega), if_pos (by omega)]
    · refine Base.Ev.neg (by simpa using c2) (Base.Ev.neg (by omega) (Base.Ev.val ?_))
      rw [wrap_id (by omega) (by omega)]
      unfold sat
      rw [if_neg (by omega), if_neg (by omega)]
  · refine Base.Ev.neg c (Ev.step (f := fun k => _) (fun k => by rw [purflingref01_Sum.j0]) ?_)
    refine Base.Ev.neg (by simp) ?_
    by_cases c1 : x < 0
    · refine Base.Ev.pos c1 ?_
      have e : wrap64 (-9223372036854775808 - x) = -9223372036854775808 - x := wrap_id (by omega) (by omega)
      rw [e]
      by_cases c2 : s < -9223372036854775808 - x
      · refine Base.Ev.pos c2 (Base.Ev.val ?_)
        unfold sat
        rw [if_pos (by omega)]
      · refine Base.Ev.neg c2 (Base.Ev.val ?_)
        rw [wrap_id (by omega) (by omega)]
        unfold sat
        rw [if_neg (by omega), if_neg (by omega)]
    · refine Base.Ev.neg c1 (Base.Ev.val ?_)
      rw [wrap_id (by omega) (by omega)]
      unfold sat
      rw [if_neg (by omega), if_neg (by omega)]
theorem refSub_ev (a b : Int) (ha : i64 a) (hb : i64 b) : Ev (fun k => purflingref01_Sub.f k a b) (sat (a - b)) := by
  unfold i64 at *
  unfold purflingref01_Sub.f
  by_cases c : b < 0
  · refine Base.Ev.pos c (Ev.step (f := fun k => _) (fun k => by rw [purflingref01_Sub.j0]) ?_)
    have e : wrap64 (9223372036854775807 + b) = 9223372036854775807 + b := wrap_id (by omega) (by omega)
    rw [e]
    by_cases c2 : a > 9223372036854775807 + b
    · refine Base.Ev.pos (by simpa using c2) (Base.Ev.val ?_)
      unfold sat
      rw [if_neg (by omega), if_pos (by omega)]
    · refine Base.Ev.neg (by simpa using c2) (Base.Ev.neg (by omega) (Base.Ev.val ?_))
      rw [wrap_id (by omega) (by omega)]
      unfold sat
      rw [if_neg (by omega), if_neg (by omega)]
  · refine Base.Ev.neg c (Ev.step (f := fun k => _) (fun k => by rw [purflingref01_Sub.j0]) ?_)
    refine Base.Ev.neg (by simp) ?_
    by_cases c1 : b > 0
    · refine Base.Ev.pos c1 ?_
      have e : wrap64 (-9223372036854775808 + b) = -9223372036854775808 + b := wrap_id (by omega) (by omega)
      rw [e]
      by_cases c2 : a < -9223372036854775808 + b
      · refine Base.Ev.pos c2 (Base.Ev.val ?_)
        unfold sat
        rw [if_pos (by omega)]
      · refine Base.Ev.neg c2 (Base.Ev.val ?_)
        rw [wrap_id (by omega) (by omega)]
        unfold sat
        rw [if_neg (by omega), if_neg (by omega)]
    · refine Base.Ev.neg c1 (Base.Ev.val ?_)
      rw [wrap_id (by omega) (by omega)]
      unfold sat
      rw [if_neg (by omega), if_neg (by omega)]
theorem addOut_i64 (l : List Int) (h : ∀ x ∈ l, i64 x) : ∀ s, i64 s → i64 (l.foldl addStep s) := by
  induction l with
  | nil => exact fun s hs => hs
  | cons a l ih => exact fun s hs => ih (fun x hx => h x (by simp [hx])) _ (by rw [step_sat s a hs (h a (by simp))]; exact sat_i64 _)
theorem refAdd_l (l : List Int) (hl : l.length ≤ 10000) (h : ∀ x ∈ l, i64 x) : ∀ (d i : Nat) (s : Int), i + d = l.length → i64 s → Ev (fun k => purflingref01_Add.l0 k l s (i : Int)) ((l.drop i).foldl addStep s)
  | 0, i, s, hi, hs => by
    refine Ev.step (f := fun k => _) (fun k => by rw [purflingref01_Add.l0]) ?_
    refine Base.Ev.neg (by omega) (Base.Ev.val ?_)
    rw [List.drop_of_length_le (by omega)]
    rfl
  | d + 1, i, s, hi, hs => by
    have hin : i < l.length := by omega
    have hx : i64 l[i] := h _ (List.getElem_mem hin)
    have e : wrap64 ((i : Int) + 1) = ((i + 1 : Nat) : Int) := by rw [wrap_id (by omega) (by omega)]; rfl
    have hrd : rd l (i : Int) = l[i] := by rw [rd_nat, List.getElem?_eq_getElem hin]; rfl
    refine Ev.step (f := fun k => _) (fun k => by rw [purflingref01_Add.l0]) ?_
    rw [hrd, e, List.drop_eq_getElem_cons hin]
    refine Base.Ev.pos (by omega) (Base.Ev.pos (by omega) (Ev.bind (sum_ev s l[i] hs hx) ?_))
    rw [List.foldl_cons, step_sat s l[i] hs hx]
    exact refAdd_l l hl h d (i + 1) _ (by omega) (sat_i64 _)
theorem refAdd_ev (l : List Int) (hl : l.length ≤ 10000) (h : ∀ x ∈ l, i64 x) : Ev (fun k => purflingref01_Add.f k l) (addOut l) := by
  unfold purflingref01_Add.f
  exact refAdd_l l hl h l.length 0 0 (by omega) (by unfold i64; omega)
/-! Products. -/
def ab (a : Int) : Int := if a < 0 then -a else a
theorem ab_bound (a : Int) (h : i64 a) : 0 ≤ ab a ∧ ab a ≤ 9223372036854775808 := by
  unfold i64 at h
  unfold ab
  split <;> omega
def mulv (neg : Bool) (p : Int) : Int := if neg = true then (if p > 9223372036854775808 then -9223372036854775808 else -p) else (if p > 9223372036854775807 then 9223372036854775807 else p)
theorem mul64 (a b : Int) (ha : i64 a) (hb : i64 b) : bits_Mul64.f (ab a) (ab b) = some (ab a * ab b / 18446744073709551616, ab a * ab b % 18446744073709551616) := by
  have h1 := ab_bound a ha
  have h2 := ab_bound b hb
  unfold bits_Mul64.f
  rw [if_pos ⟨⟨by omega, by omega⟩, ⟨by omega, by omega⟩⟩]
theorem size_eq (a : Int) (ha : i64 a) : purflingref01_size.f a = some (ab a) := by
  unfold purflingref01_size.f ab
  unfold i64 at *
  by_cases c : a < 0
  · rw [if_pos c, if_pos c, w64, w64]
    congr 1
    omega
  · rw [if_neg c, if_neg c, w64]
    congr 1
    omega
theorem mul_ev (a b : Int) (ha : i64 a) (hb : i64 b) : Ev (fun k => fixed_Mul.f k a b) (mulv (decide (a < 0) != decide (b < 0)) (ab a * ab b)) := by
  have hm := mul64 a b ha hb
  have hp : 0 ≤ ab a * ab b := Int.mul_nonneg (ab_bound a ha).1 (ab_bound b hb).1
  unfold fixed_Mul.f
  refine Ev.bind (a := ab a) ⟨0, fun _ _ => bare_eq a ha⟩ (Ev.bind (a := ab b) ⟨0, fun _ _ => bare_eq b hb⟩ (Ev.bind (a := (ab a * ab b / 18446744073709551616, ab a * ab b % 18446744073709551616)) ⟨0, fun _ _ => hm⟩ ?_))
  clear hm
  generalize ab a * ab b = p at *
  generalize (decide (a < 0) != decide (b < 0)) = neg
  by_cases c : p / 18446744073709551616 = 0
  · have e : p % 18446744073709551616 = p := by omega
    refine Base.Ev.pos c ?_
    rw [e, c]
    by_cases c2 : p ≤ 9223372036854775807
    · have w1 : wrap64 p = p := wrap_id (by omega) c2
      have w2 : wrap64 (-p) = -p := wrap_id (by omega) (by omega)
      refine Base.Ev.pos c2 (Ev.step (f := fun k => _) (fun k => by rw [fixed_Mul.j0]) ?_)
      rw [w1, w2]
      cases neg
      · refine Base.Ev.neg (by simp) (Base.Ev.pos rfl (Base.Ev.pos c2 (Base.Ev.val ?_)))
        unfold mulv
        rw [if_neg (by simp), if_neg (by omega)]
      · refine Base.Ev.pos rfl (Base.Ev.val ?_)
        unfold mulv
        rw [if_pos rfl, if_neg (by omega)]
    · refine Base.Ev.neg c2 (Ev.step (f := fun k => _) (fun k => by rw [fixed_Mul.j0]) (Base.Ev.neg (by simp) (Base.Ev.pos rfl (Base.Ev.neg c2 ?_))))
      cases neg
      · refine Ev.bind (a := 9223372036854775807) ⟨0, fun _ _ => rfl⟩ (Base.Ev.val ?_)
        unfold mulv
        rw [if_neg (by simp), if_pos (by omega)]
      · refine Ev.bind (a := -9223372036854775808) ⟨0, fun _ _ => rfl⟩ (Base.Ev.val ?_)
        unfold mulv
        rw [if_pos rfl]
        split <;> omega
  · refine Base.Ev.neg c (Ev.step (f := fun k => _) (fun k => by rw [fixed_Mul.j0]) (Base.Ev.neg (by simp) (Base.Ev.neg c ?_)))
    cases neg
    · refine Ev.bind (a := 9223372036854775807) ⟨0, fun _ _ => rfl⟩ (Base.Ev.val ?_)
      unfold mulv
      rw [if_neg (by simp), if_pos (by omega)]
    · refine Ev.bind (a := -9223372036854775808) ⟨0, fun _ _ => rfl⟩ (Base.Ev.val ?_)
      unfold mulv
      rw [if_pos rfl, if_pos (by omega)]
theorem refMul_ev (a b : Int) (ha : i64 a) (hb : i64 b) : Ev (fun k => purflingref01_Mul.f k a b) (mulv (decide (a < 0) != decide (b < 0)) (ab a * ab b)) := by
  have hm := mul64 a b ha hb
  have hp : 0 ≤ ab a * ab b := Int.mul_nonneg (ab_bound a ha).1 (ab_bound b hb).1
  unfold purflingref01_Mul.f
  refine Ev.bind (a := ab a) ⟨0, fun _ _ => size_eq a ha⟩ (Ev.bind (a := ab b) ⟨0, fun _ _ => size_eq b hb⟩ (Ev.bind (a := (ab a * ab b / 18446744073709551616, ab a * ab b % 18446744073709551616)) ⟨0, fun _ _ => hm⟩ ?_))
  clear hm
  generalize ab a * ab b = p at *
  generalize (decide (a < 0) != decide (b < 0)) = neg
  cases neg
  · refine Base.Ev.neg (by simp) ?_
    by_cases c : p / 18446744073709551616 > 0
    · refine Base.Ev.pos c (Base.Ev.val ?_)
      unfold mulv
      rw [if_neg (by simp), if_pos (by omega)]
    · refine Base.Ev.neg c ?_
      have e : p % 18446744073709551616 = p := by omega
      rw [e]
      by_cases c2 : p > 9223372036854775807
      · refine Base.Ev.pos c2 (Base.Ev.val ?_)
        unfold mulv
        rw [if_neg (by simp), if_pos (by omega)]
      · refine Base.Ev.neg c2 (Base.Ev.val ?_)
        rw [wrap_id (by omega) (by omega)]
        unfold mulv
        rw [if_neg (by simp), if_neg (by omega)]
  · refine Base.Ev.pos rfl ?_
    by_cases c : p / 18446744073709551616 > 0
    · refine Base.Ev.pos c (Ev.step (f := fun k => _) (fun k => by rw [purflingref01_Mul.j0]) (Base.Ev.pos rfl (Base.Ev.val ?_)))
      unfold mulv
      rw [if_pos rfl, if_pos (by omega)]
    · refine Base.Ev.neg c ?_
      have e : p % 18446744073709551616 = p := by omega
      rw [e]
      refine Ev.step (f := fun k => _) (fun k => by rw [purflingref01_Mul.j0]) ?_
      by_cases c2 : p > 9223372036854775808
      · refine Base.Ev.pos (by simpa using c2) (Base.Ev.val ?_)
        unfold mulv
        rw [if_pos rfl, if_pos (by omega)]
      · refine Base.Ev.neg (by simpa using c2) (Base.Ev.val ?_)
        unfold mulv
        rw [if_pos rfl, if_neg c2]
        unfold wrap64
        omega
theorem refPart_ev (a b : Int) (ha : 0 ≤ a ∧ a ≤ 9223372036854775807) (hb : 0 ≤ b ∧ b ≤ 9223372036854775807) : Ev (fun k => purflingref01_Part.f k a b) (mn (a * b / 10000) 9223372036854775807) := by
  have c1 : ¬ a < 0 := by omega
  have c2 : ¬ b < 0 := by omega
  have h1 : IntKind.u64.wrap a = a := w64_id (by omega) (by omega)
  have h2 : IntKind.u64.wrap b = b := w64_id (by omega) (by omega)
  have hm : bits_Mul64.f a b = some (a * b / 18446744073709551616, a * b % 18446744073709551616) := by
    unfold bits_Mul64.f
    rw [if_pos ⟨⟨by omega, by omega⟩, ⟨by omega, by omega⟩⟩]
  have hp : 0 ≤ a * b := Int.mul_nonneg ha.1 hb.1
  unfold purflingref01_Part.f
  refine Base.Ev.neg c1 (Ev.step (f := fun k => _) (fun k => by rw [purflingref01_Part.j0]) ?_)
  rw [h1, h2]
  refine Base.Ev.neg (by simpa using c2) (Ev.bind (a := (a * b / 18446744073709551616, a * b % 18446744073709551616)) ⟨0, fun _ _ => hm⟩ ?_)
  clear hm h1 h2 ha hb
  generalize a * b = p at *
  by_cases c : p / 18446744073709551616 ≥ 10000
  · refine Base.Ev.pos c (Base.Ev.val ?_)
    unfold mn
    rw [if_pos (by omega)]
  · refine Base.Ev.neg c ?_
    have hd := div64_eq (p / 18446744073709551616) (p % 18446744073709551616) 10000 (by omega) (by omega) (by omega) (by omega) (by omega)
    have e : p / 18446744073709551616 * 18446744073709551616 + p % 18446744073709551616 = p := by omega
    rw [e] at hd
    refine Ev.bind (a := (p / 10000, p % 10000)) (Ev.of (bits_Div64.mono _ _ _) (k := 13) hd) ?_
    have h0 : 0 ≤ p / 10000 := by omega
    by_cases c3 : p / 10000 > 9223372036854775807
    · refine Base.Ev.pos c3 (Base.Ev.val ?_)
      unfold mn
      rw [if_pos (by omega)]
    · refine Base.Ev.neg c3 (Base.Ev.val ?_)
      unfold mn
      rw [if_neg (by omega)]
      exact wrap_id (by omega) (by omega)
/-- Both Parts are one. -/
theorem part_both (a b : Int) (ha : i64 a) (hb : i64 b) : ∃ v, Ev (fun k => fixed_Part.f k a b) v ∧ Ev (fun k => purflingref01_Part.f k a b) v := by
  unfold i64 at *
  by_cases c : a < 0
  · refine ⟨0, ?_, ?_⟩
    · unfold fixed_Part.f
      exact Base.Ev.pos c (Ev.step (f := fun k => _) (fun k => by rw [fixed_Part.j0]) (Base.Ev.pos rfl (Ev.now _)))
    · unfold purflingref01_Part.f
      exact Base.Ev.pos c (Ev.step (f := fun k => _) (fun k => by rw [purflingref01_Part.j0]) (Base.Ev.pos rfl (Ev.now _)))
  · by_cases c2 : b < 0
    · refine ⟨0, ?_, ?_⟩
      · unfold fixed_Part.f
        exact Base.Ev.neg c (Ev.step (f := fun k => _) (fun k => by rw [fixed_Part.j0]) (Base.Ev.pos (by simpa using c2) (Ev.now _)))
      · unfold purflingref01_Part.f
        exact Base.Ev.neg c (Ev.step (f := fun k => _) (fun k => by rw [purflingref01_Part.j0]) (Base.Ev.pos (by simpa using c2) (Ev.now _)))
    · exact ⟨_, part_ev a b ⟨by omega, by omega⟩ ⟨by omega, by omega⟩, refPart_ev a b ⟨by omega, by omega⟩ ⟨by omega, by omega⟩⟩
theorem clamp_both (a b c : Int) : ∃ v, fixed_Clamp.f a b c = some v ∧ purflingref01_Clamp.f a b c = some v := by
  refine ⟨_, rfl, ?_⟩
  unfold purflingref01_Clamp.f mx mn
  (repeat' split) <;> first | rfl | (congr 1; omega) | omega
end Go.Proofs.Ytoblfbpigajjcaa.PureSums
namespace Go.Proofs.Ytoblfbpigajjcaa.Pure
open Go.RowKit Go.Proofs.Ytoblfbpigajjcaa.PA Go.Proofs.YtoblfbpigajjcaaW.PrintWords Go.Proofs.YtoblfbpigajjcaaW.PrintLast Go.Proofs.YtoblfbpigajjcaaW.PrintMore Go.Proofs.Ytoblfbpigajjcaa.Base Go.Proofs.Ytoblfbpigajjcaa.PureSums
theorem FixedSums : purflinglaw01_FixedSums.Pure := by
  intro l a b c _ _ hl wa wb _
  suffices h : Ev (fun k => purflinglaw01_FixedSums.f k l a b c) true from h.rounds
  have ha : i64 a := i64_of wa
  have hb : i64 b := i64_of wb
  have hll : ∀ x ∈ l.take 200, i64 x := fun x hx => i64_of (hl x (List.mem_of_mem_take hx))
  obtain ⟨vp, p1, p2⟩ := part_both a b ha hb
  obtain ⟨vc, c1, c2⟩ := clamp_both a b c
  unfold purflinglaw01_FixedSums.f
  refine Ev.bind shown_ev (Base.Ev.pos rfl ?_)
  refine Ev.bind (a := l.take 200) ⟨0, fun _ _ => PureSums.cut_eq l⟩ (Ev.bind (a := addOut (l.take 200)) ⟨0, fun _ _ => rfl⟩ (Ev.bind (a := l.take 200) ⟨0, fun _ _ => PureSums.cut_eq l⟩ (Ev.bind (refAdd_ev _ (by rw [List.length_take]; omega) hll) (Base.Ev.pos rfl ?_))))
  refine Ev.bind (a := sat (a - b)) ⟨0, fun _ _ => sub_eq a b ha hb⟩ (Ev.bind (refSub_ev a b ha hb) (Base.Ev.pos rfl ?_))
  refine Ev.bind (mul_ev a b ha hb) (Ev.bind (refMul_ev a b ha hb) (Base.Ev.pos rfl ?_))
  refine Ev.bind p1 (Ev.bind p2 (Base.Ev.pos rfl ?_))
  refine Ev.bind (a := vc) ⟨0, fun _ _ => c1⟩ (Ev.bind (a := vc) ⟨0, fun _ _ => c2⟩ (Base.Ev.val ?_))
  simp
end Go.Proofs.Ytoblfbpigajjcaa.Pure
