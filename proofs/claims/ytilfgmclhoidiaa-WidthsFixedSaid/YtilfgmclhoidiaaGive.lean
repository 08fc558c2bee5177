/- Numbers given to those of whom it is so, in their order. Plain lists; no program in sight. -/
import Derived.Test.YtilfgmclhoidiaaFair
namespace Go.Proofs.Ytilfgmclhoidiaa.Base
open Go.RowKit Go.Proofs.Ytilfgmclhoidiaa.PA Go.Proofs.YtilfgmclhoidiaaW.PrintWords Go.Proofs.YtilfgmclhoidiaaW.PrintLast
/-- The places at which it is so. -/
def pos : List Bool → List Nat
  | [] => []
  | true :: r => 0 :: (pos r).map (· + 1)
  | false :: r => (pos r).map (· + 1)
theorem pos_lt : ∀ (b : List Bool) (i : Nat), i ∈ pos b → i < b.length
  | [], i, h => by simp [pos] at h
  | true :: r, i, h => by
    simp only [pos, List.mem_cons, List.mem_map] at h
    rcases h with rfl | ⟨j, hj, rfl⟩
    · simp
    · have := pos_lt r j hj
      simp
      omega
  | false :: r, i, h => by
    simp only [pos, List.mem_map] at h
    obtain ⟨j, hj, rfl⟩ := h
    have := pos_lt r j hj
    simp
    omega
theorem pos_length_le : ∀ b : List Bool, (pos b).length ≤ b.length
  | [] => by simp [pos]
  | true :: r => by have := pos_length_le r; simp [pos]; omega
  | false :: r => by have := pos_length_le r; simp [pos]; omega
/-- Numbers o, added to those of whom it is so, in their order. -/
def giveOn : List Bool → List Int → List Int → List Int
  | true :: b, w :: ws, x :: o => (w + x) :: giveOn b ws o
  | false :: b, w :: ws, o => w :: giveOn b ws o
  | _, ws, _ => ws
theorem giveOn_nil : ∀ (b : List Bool) (ws : List Int), giveOn b ws [] = ws
  | [], ws => by cases ws <;> rfl
  | true :: b, [] => rfl
  | true :: b, w :: ws => rfl
  | false :: b, [] => rfl
  | false :: b, w :: ws => by show w :: giveOn b ws [] = _; rw [giveOn_nil b ws]
theorem giveOn_length : ∀ (b : List Bool) (ws o : List Int), (giveOn b ws o).length = ws.length
  | [], ws, o => by cases ws <;> rfl
  | true :: b, [], o => by cases o <;> rfl
  | true :: b, w :: ws, [] => rfl
  | true :: b, w :: ws, x :: o => by show (_ :: giveOn b ws o).length = _; simp [giveOn_length b ws o]
  | false :: b, [], o => rfl
  | false :: b, w :: ws, o => by show (_ :: giveOn b ws o).length = _; simp [giveOn_length b ws o]
theorem giveOn_sum : ∀ (b : List Bool) (ws o : List Int), ws.length = b.length → o.length = (pos b).length → (giveOn b ws o).sum = ws.sum + o.sum
  | [], ws, o, h1, h2 => by
    have e1 : ws = [] := List.length_eq_zero_iff.1 h1
    have e2 : o = [] := List.length_eq_zero_iff.1 (by simpa [pos] using h2)
    subst e1 e2
    rfl
  | true :: b, w :: ws, x :: o, h1, h2 => by
    have ih := giveOn_sum b ws o (by simpa using h1) (by simpa [pos] using h2)
    show (_ :: giveOn b ws o).sum = _
    simp only [List.sum_cons, ih]
    omega
  | true :: b, w :: ws, [], h1, h2 => by simp [pos] at h2
  | true :: b, [], o, h1, h2 => by simp at h1
  | false :: b, w :: ws, o, h1, h2 => by
    have ih := giveOn_sum b ws o (by simpa using h1) (by simpa [pos] using h2)
    show (_ :: giveOn b ws o).sum = _
    simp only [List.sum_cons, ih]
    omega
  | false :: b, [], o, h1, h2 => by simp at h1
theorem giveOn_ge : ∀ (b : List Bool) (ws o : List Int) (i : Nat), (∀ x ∈ o, 0 ≤ x) → ws[i]?.getD 0 ≤ (giveOn b ws o)[i]?.getD 0
  | [], ws, o, i, _ => by cases ws <;> exact Int.le_refl _
  | true :: b, [], o, i, _ => by cases o <;> exact Int.le_refl _
  | true :: b, w :: ws, [], i, _ => Int.le_refl _
  | true :: b, w :: ws, x :: o, i, h => by
    show _ ≤ (_ :: giveOn b ws o)[i]?.getD 0
    have hx := h x (by simp)
    cases i with
    | zero => simp; omega
    | succ i => simpa using giveOn_ge b ws o i (fun y hy => h y (by simp [hy]))
  | false :: b, [], o, i, _ => Int.le_refl _
  | false :: b, w :: ws, o, i, h => by
    show _ ≤ (_ :: giveOn b ws o)[i]?.getD 0
    cases i with
    | zero => simp
    | succ i => simpa using giveOn_ge b ws o i h
theorem giveOn_bound (A B : Int) : ∀ (b : List Bool) (ws o : List Int), (∀ x ∈ ws, 0 ≤ x ∧ x ≤ A) → (∀ x ∈ o, 0 ≤ x ∧ x ≤ B) → 0 ≤ B → ∀ x ∈ giveOn b ws o, 0 ≤ x ∧ x ≤ A + B
  | [], ws, o, h1, _, hB => by
    have e : giveOn [] ws o = ws := by cases ws <;> rfl
    intro x hx
    rw [e] at hx
    have := h1 x hx
    omega
  | true :: b, [], o, h1, _, hB => by cases o <;> (intro x hx; exact absurd hx (by simp [giveOn]))
  | true :: b, w :: ws, [], h1, _, hB => fun x hx => by
    have := h1 x hx
    omega
  | true :: b, w :: ws, y :: o, h1, h2, hB => by
    intro x hx
    have hx' : x ∈ (w + y) :: giveOn b ws o := hx
    rcases List.mem_cons.1 hx' with rfl | hx
    · have := h1 w (by simp)
      have := h2 y (by simp)
      omega
    · exact giveOn_bound A B b ws o (fun z hz => h1 z (by simp [hz])) (fun z hz => h2 z (by simp [hz])) hB x hx
  | false :: b, [], o, h1, _, hB => fun x hx => absurd hx (by simp [giveOn])
  | false :: b, w :: ws, o, h1, h2, hB => by
    intro x hx
    have hx' : x ∈ w :: giveOn b ws o := hx
    rcases List.mem_cons.1 hx' with rfl | hx
    · have := h1 x (by simp)
      omega
    · exact giveOn_bound A B b ws o (fun z hz => h1 z (by simp [hz])) h2 hB x hx
/-- One more is given. -/
theorem giveOn_step : ∀ (b : List Bool) (ws o : List Int) (k : Nat), ws.length = b.length → o.length = (pos b).length → k < o.length →
    (giveOn b ws (o.take k)).set ((pos b)[k]?.getD 0) ((giveOn b ws (o.take k))[(pos b)[k]?.getD 0]?.getD 0 + o[k]?.getD 0) = giveOn b ws (o.take (k + 1))
  | [], ws, o, k, h1, h2, hk => by have h3 : o.length = 0 := h2; omega
  | true :: b, [], o, k, h1, h2, hk => by simp at h1
  | true :: b, w :: ws, [], k, h1, h2, hk => by simp at hk
  | true :: b, w :: ws, x :: o, 0, h1, h2, hk => by
    have e1 : giveOn (true :: b) (w :: ws) ((x :: o).take 0) = w :: ws := giveOn_nil _ _
    have e2 : giveOn (true :: b) (w :: ws) ((x :: o).take (0 + 1)) = (w + x) :: giveOn b ws [] := rfl
    rw [e1, e2, giveOn_nil]
    simp [pos]
  | true :: b, w :: ws, x :: o, k + 1, h1, h2, hk => by
    have hk' : k < o.length := by simpa using hk
    have h2' : o.length = (pos b).length := by simpa [pos] using h2
    have ih := giveOn_step b ws o k (by simpa using h1) h2' hk'
    have e1 : giveOn (true :: b) (w :: ws) ((x :: o).take (k + 1)) = (w + x) :: giveOn b ws (o.take k) := rfl
    have e2 : giveOn (true :: b) (w :: ws) ((x :: o).take (k + 1 + 1)) = (w + x) :: giveOn b ws (o.take (k + 1)) := rfl
    have e3 : (pos (true :: b))[k + 1]?.getD 0 = (pos b)[k]?.getD 0 + 1 := by simp [pos, List.getElem?_eq_getElem (show k < (pos b).length by omega)]
    have e4 : (x :: o)[k + 1]?.getD 0 = o[k]?.getD 0 := by simp
    rw [e1, e2, e3, e4, List.set_cons_succ, List.getElem?_cons_succ, ih]
  | false :: b, [], o, k, h1, h2, hk => by simp at h1
  | false :: b, w :: ws, o, k, h1, h2, hk => by
    have h2' : o.length = (pos b).length := by simpa [pos] using h2
    have ih := giveOn_step b ws o k (by simpa using h1) h2' hk
    have e1 : ∀ o', giveOn (false :: b) (w :: ws) o' = w :: giveOn b ws o' := fun _ => rfl
    have e3 : (pos (false :: b))[k]?.getD 0 = (pos b)[k]?.getD 0 + 1 := by simp [pos, List.getElem?_eq_getElem (show k < (pos b).length by omega)]
    rw [e1, e1, e3, List.set_cons_succ, List.getElem?_cons_succ, ih]
theorem giveOn_all : ∀ (ws o : List Int), o.length = ws.length → giveOn (List.replicate ws.length true) ws o = ws.zipWith (· + ·) o
  | [], o, h => by cases o <;> rfl
  | w :: ws, [], h => by simp at h
  | w :: ws, x :: o, h => by
    show (w + x) :: giveOn (List.replicate ws.length true) ws o = _
    rw [giveOn_all ws o (by simpa using h)]
    rfl
theorem pos_all : ∀ n : Nat, pos (List.replicate n true) = List.range n
  | 0 => rfl
  | n + 1 => by
    rw [List.replicate_succ, pos, pos_all n, List.range_succ_eq_map]
/-- The places, as the program finds them. -/
theorem pos_filter {α : Type} (p : α → Bool) : ∀ l : List α, ((List.finRange l.length).filter (fun i => p l[i.1])).map (·.1) = pos (l.map p)
  | [] => rfl
  | a :: l => by
    have ih := pos_filter p l
    have e : (List.finRange (a :: l).length) = (⟨0, by simp⟩ : Fin (a :: l).length) :: (List.finRange l.length).map Fin.succ := List.finRange_succ
    rw [e, List.filter_cons]
    have e2 : (((List.finRange l.length).map Fin.succ).filter (fun i : Fin (a :: l).length => p (a :: l)[i.1])).map (·.1) = (pos (l.map p)).map (· + 1) := by
      rw [List.filter_map, List.map_map, ← ih, List.map_map]
      rfl
    cases h : p a with
    | true =>
      rw [if_pos (by simpa using h), List.map_cons, e2, List.map_cons, h]
      rfl
    | false =>
      rw [if_neg (by simpa using h), e2, List.map_cons, h]
      rfl
/-- A share of a right length to right weights. -/
theorem share_ok (total : Int) (m : List Int) (h : mayShare total m.length) (hg : goodW m) : ∃ o, fixed_Share.f total m = some (o, 0) ∧ Fair total m o := by
  rcases share_fair total m with e | e
  · exfalso
    unfold fixed_Share.f at e
    have hb : ¬ m.any badW = true := by
      intro hb
      obtain ⟨x, hx, hw⟩ := List.any_eq_true.1 hb
      have := hg x hx
      unfold badW at hw
      simp only [Bool.or_eq_true, decide_eq_true_eq] at hw
      omega
    rw [if_pos h, if_neg hb] at e
    split at e <;> simp at e
  · exact e
end Go.Proofs.Ytilfgmclhoidiaa.Base
