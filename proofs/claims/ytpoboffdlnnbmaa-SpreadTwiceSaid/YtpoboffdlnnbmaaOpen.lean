import Derived.Test.YtpoboffdlnnbmaaPAx0
import Derived.Deep.Slices
import Derived.ChangeArms
import Derived.KernelRfl
namespace Go.Proofs.Ytpoboffdlnnbmaa.Pure
open Go.RowKit Go.Proofs.Ytpoboffdlnnbmaa.PA Go.Proofs.YtpoboffdlnnbmaaW.PrintWords Go.Proofs.YtpoboffdlnnbmaaW.PrintLast Go.ChangeShapes Go.WideShapes Go.Deep
set_option linter.unusedVariables false
/-- What there is at each place, as a list. -/
theorem list_of {α : Type} {p : Nat → α → Prop} : ∀ (n : Nat), (∀ i, i < n → ∃ a, p i a) → ∃ l : List α, l.length = n ∧ ∀ i a, l[i]? = some a → p i a
  | 0, _ => ⟨[], rfl, fun i a h => by simp at h⟩
  | n + 1, h => by
    obtain ⟨l, hl, hp⟩ := list_of n (fun i hi => h i (by omega))
    obtain ⟨a, ha⟩ := h n (by omega)
    refine ⟨l ++ [a], by simp [hl], fun i b hb => ?_⟩
    by_cases hi : i < l.length
    · rw [List.getElem?_append_left hi] at hb
      exact hp i b hb
    · rw [List.getElem?_append_right (by omega)] at hb
      have h0 : i - l.length = 0 := by
        have := (List.getElem?_eq_some_iff.1 hb).1
        simp at this
        omega
      rw [h0] at hb
      simp at hb
      subst hb
      rw [show i = n by omega]
      exact ha
section
variable {H : Type} {enc : TypeId × Value → H} {P : Program} {W : World} {base : Nat} {spare : Nat → Bool} {held : Bool}
/-- A slice that comes in, read element by element. -/
theorem open_C {α : Type} (kd : Kd α) (good : α → Prop) {t e : TypeId} {fuel : Nat} {cs : List Value} {x : DataW H × List MemPlace} (ht : P.underlying t = some (.slice e)) (hsz : P.cellsOf e = kd.sz)
    (hel : ∀ n cs' y, DataW.trod enc P W base spare held n e cs' = some y → ∃ a, kd.K W a cs' ∧ good a) (h : DataW.trod enc P W base spare held fuel t cs = some x) :
    ∃ (A : Option Addr) (cap : Nat) (l : List α), cs = [.slice A l.length cap] ∧ kd.C W A l.length l ∧ l.length ≤ cap ∧ (∀ a ∈ l, good a) ∧ l.length ≤ maxLen := by
  rcases open_slice ht h with ⟨rfl, _⟩ | ⟨a, len, cap, m, n, D, Pl, rfl, hb, hl, hm, hmm, _, hi⟩
  · exact ⟨none, 0, [], rfl, Kd.C_nil _ _, Nat.le_refl _, by simp, by simp⟩
  · have hlm : len ≤ m := by rw [hmm]; split <;> omega
    obtain ⟨l, hll, hp⟩ := list_of (p := fun i x => good x ∧ ∃ c, c.length = kd.sz ∧ kd.K W x c ∧ ∀ j u, c[j]? = some u → W.cell? (a.add (i * kd.sz + j)) = some u) len (fun i hil => by
      obtain ⟨cs', hc, ht'⟩ := hi i (by omega)
      obtain ⟨x, hk, hg⟩ := hel _ _ _ ht'
      obtain ⟨_, hcl, hat⟩ := World.cells?_some hc
      rw [hsz] at hcl hat
      refine ⟨x, hg, cs', hcl, hk, fun j u hu => ?_⟩
      have hj : j < kd.sz := by rw [← hcl]; exact (List.getElem?_eq_some_iff.1 hu).1
      have h1 := hat j hj
      rw [Go.Deep.add_add, hu] at h1
      exact h1)
    subst hll
    refine ⟨some a, cap, l, rfl, ⟨rfl, by unfold maxLen at hm; omega, fun _ => ⟨a, rfl, fun j p hj => (hp j p hj).2⟩⟩, hl, fun b hb => ?_, by omega⟩
    obtain ⟨i, hi'⟩ := List.getElem?_of_mem hb
    exact (hp i b hi').1
/-- A whole number in a struct. -/
theorem field_int {fs : Array Field} {cs : List Value} {xs : List (DataW H × List MemPlace)} {n j : Nat} {f : Field} (hf : ∀ (i : Nat) (f : Field), fs[i]? = some f → DataW.trod enc P W base spare held n f.type ((cs.drop f.offset).take (P.cellsOf f.type)) = xs[i]?)
    (hl : xs.length = fs.size) (hj : fs[j]? = some f) (ht : P.underlying f.type = some (.int .i64)) (hc : P.cellsOf f.type = 1) : ∃ v, (cs.drop f.offset).take 1 = [.int .i64 v] ∧ (Lit.int .i64 v).wf = true := by
  have h1 := hf j f hj
  have hlt : j < xs.length := by rw [hl]; exact (Array.getElem?_eq_some_iff.1 hj).1
  rw [List.getElem?_eq_getElem hlt, hc] at h1
  obtain ⟨v, hv, _, hw⟩ := DataW.trod_int ht h1
  exact ⟨v, hv, hw⟩
end
def good42 (b : S42) : Prop := (Lit.int .i64 b.f0).wf = true ∧ (Lit.int .i64 b.f1).wf = true ∧ (Lit.int .i64 b.f2).wf = true ∧ (Lit.int .i64 b.f3).wf = true
def good44 (b : S44) : Prop := (Lit.int .i64 b.f0).wf = true ∧ (Lit.int .i64 b.f1).wf = true
/-- A place: whole numbers all. -/
def good51 (b : S51) : Prop := (Lit.int .i64 b.f0).wf = true ∧ (Lit.int .i64 b.f1).wf = true ∧ (Lit.int .i64 b.f2).wf = true ∧ (Lit.int .i64 b.f3).wf = true ∧ (Lit.int .i64 b.f4).wf = true
def good53 (b : S53) : Prop := good51 b.f0 ∧ (Lit.int .i64 b.f1).wf = true ∧ (Lit.int .i64 b.f2).wf = true ∧ good44 b.f3
section
variable {H : Type} {enc : TypeId × Value → H} {W : World} {base : Nat} {spare : Nat → Bool} {held : Bool}
theorem field_some {P : Program} {fs : Array Field} {cs : List Value} {xs : List (DataW H × List MemPlace)} {n j : Nat} {f : Field} (hf : ∀ (i : Nat) (f : Field), fs[i]? = some f → DataW.trod enc P W base spare held n f.type ((cs.drop f.offset).take (P.cellsOf f.type)) = xs[i]?)
    (hl : xs.length = fs.size) (hj : fs[j]? = some f) : ∃ y, DataW.trod enc P W base spare held n f.type ((cs.drop f.offset).take (P.cellsOf f.type)) = some y := by
  have hlt : j < xs.length := by rw [hl]; exact (Array.getElem?_eq_some_iff.1 hj).1
  rw [hf j f hj, List.getElem?_eq_getElem hlt]
  exact ⟨_, rfl⟩
theorem cells51 : Try.prog.cellsOf 51 = 5 := by kernel_rfl
theorem cells53 : Try.prog.cellsOf 53 = 9 := by kernel_rfl
theorem cells2 : Try.prog.cellsOf 2 = 1 := by kernel_rfl
theorem cells3 : Try.prog.cellsOf 3 = 1 := by kernel_rfl
theorem cells42 : Try.prog.cellsOf 42 = 4 := by kernel_rfl
theorem cells44 : Try.prog.cellsOf 44 = 2 := by kernel_rfl
set_option maxRecDepth 100000 in
theorem el42 (n : Nat) (cs : List Value) (y : DataW H × List MemPlace) (h : DataW.trod enc Try.prog W base spare held n 42 cs = some y) : ∃ a : S42, k42.K W a cs ∧ good42 a := by
  obtain ⟨xs, m, _, _, hcl, hxl, hf⟩ := DataW.trod_struct Try.underlying42 h
  rw [cells42] at hcl
  obtain ⟨v0, e0, w0⟩ := field_int hf hxl (j := 0) rfl Try.underlying2 cells2
  obtain ⟨v1, e1, w1⟩ := field_int hf hxl (j := 1) rfl Try.underlying2 cells2
  obtain ⟨v2, e2, w2⟩ := field_int hf hxl (j := 2) rfl Try.underlying2 cells2
  obtain ⟨v3, e3, w3⟩ := field_int hf hxl (j := 3) rfl Try.underlying2 cells2
  match cs, hcl with
  | [c0, c1, c2, c3], _ =>
    simp at e0 e1 e2 e3
    subst e0 e1 e2 e3
    exact ⟨⟨v0, v1, v2, v3⟩, k42_mk _ _, w0, w1, w2, w3⟩
def good64 (a : Int) : Prop := (Lit.int .i64 a).wf = true
theorem el64 (n : Nat) (cs : List Value) (y : DataW H × List MemPlace) (h : DataW.trod enc Try.prog W base spare held n 2 cs = some y) : ∃ a : Int, (Kd.int .i64).K W a cs ∧ good64 a := by
  obtain ⟨v, hv, _, hw⟩ := DataW.trod_int Try.underlying2 h
  exact ⟨v, hv, hw⟩
set_option maxRecDepth 100000 in
theorem el44 (n : Nat) (cs : List Value) (y : DataW H × List MemPlace) (h : DataW.trod enc Try.prog W base spare held n 44 cs = some y) : ∃ a : S44, k44.K W a cs ∧ good44 a := by
  obtain ⟨xs, m, _, _, hcl, hxl, hf⟩ := DataW.trod_struct Try.underlying44 h
  rw [cells44] at hcl
  obtain ⟨v0, e0, w0⟩ := field_int hf hxl (j := 0) rfl Try.underlying3 cells3
  obtain ⟨v1, e1, w1⟩ := field_int hf hxl (j := 1) rfl Try.underlying2 cells2
  match cs, hcl with
  | [c0, c1], _ =>
    simp at e0 e1
    subst e0 e1
    exact ⟨⟨v0, v1⟩, k44_mk _ _, w0, w1⟩
set_option maxRecDepth 100000 in
theorem el51 (n : Nat) (cs : List Value) (y : DataW H × List MemPlace) (h : DataW.trod enc Try.prog W base spare held n 51 cs = some y) : ∃ a : S51, k51.K W a cs ∧ good51 a := by
  obtain ⟨xs, m, _, _, hcl, hxl, hf⟩ := DataW.trod_struct Try.underlying51 h
  rw [cells51] at hcl
  obtain ⟨v0, e0, w0⟩ := field_int hf hxl (j := 0) rfl Try.underlying3 cells3
  obtain ⟨v1, e1, w1⟩ := field_int hf hxl (j := 1) rfl Try.underlying3 cells3
  obtain ⟨v2, e2, w2⟩ := field_int hf hxl (j := 2) rfl Try.underlying3 cells3
  obtain ⟨v3, e3, w3⟩ := field_int hf hxl (j := 3) rfl Try.underlying3 cells3
  obtain ⟨v4, e4, w4⟩ := field_int hf hxl (j := 4) rfl Try.underlying3 cells3
  match cs, hcl with
  | [c0, c1, c2, c3, c4], _ =>
    simp at e0 e1 e2 e3 e4
    subst e0 e1 e2 e3 e4
    exact ⟨⟨v0, v1, v2, v3, v4⟩, k51_mk _ _, w0, w1, w2, w3, w4⟩
set_option maxRecDepth 100000 in
theorem el53 (n : Nat) (cs : List Value) (y : DataW H × List MemPlace) (h : DataW.trod enc Try.prog W base spare held n 53 cs = some y) : ∃ a : S53, k53.K W a cs ∧ good53 a := by
  obtain ⟨xs, m, _, _, hcl, hxl, hf⟩ := DataW.trod_struct Try.underlying53 h
  rw [cells53] at hcl
  obtain ⟨y0, e0⟩ := field_some hf hxl (j := 0) rfl
  obtain ⟨v1, e1, w1⟩ := field_int hf hxl (j := 1) rfl Try.underlying2 cells2
  obtain ⟨v2, e2, w2⟩ := field_int hf hxl (j := 2) rfl Try.underlying2 cells2
  obtain ⟨y3, e3⟩ := field_some hf hxl (j := 3) rfl
  obtain ⟨a0, k0, g0⟩ := el51 _ _ _ e0
  obtain ⟨a3, k3, g3⟩ := el44 _ _ _ e3
  have o0 := k51_open k0
  have o3 := k44_open k3
  match cs, hcl with
  | [c0, c1, c2, c3, c4, c5, c6, c7, c8], _ =>
    simp [cells51] at e1 e2 o0
    simp [cells44] at o3
    obtain ⟨rfl, rfl, rfl, rfl, rfl⟩ := o0
    obtain ⟨rfl, rfl⟩ := o3
    subst e1 e2
    exact ⟨⟨a0, v1, v2, a3⟩, k53_mk _ ⟨a0, v1, v2, a3⟩, g0, w1, w2, g3⟩
end
end Go.Proofs.Ytpoboffdlnnbmaa.Pure
