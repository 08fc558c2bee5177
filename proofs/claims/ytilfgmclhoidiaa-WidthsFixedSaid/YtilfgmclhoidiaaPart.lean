/- Shares of numbers and saturated sums: the program's and the document's are one. Condition: the numbers are of 64 bits. -/
import Derived.Test.YtilfgmclhoidiaaPAx13
import Derived.Test.YtilfgmclhoidiaaPAx20
import Derived.Test.YtilfgmclhoidiaaTwo
import Derived.Test.YtilfgmclhoidiaaSat
namespace Go.Proofs.Ytilfgmclhoidiaa.Base
open Go.RowKit Go.Proofs.Ytilfgmclhoidiaa.PA Go.Proofs.YtilfgmclhoidiaaW.PrintWords Go.Proofs.YtilfgmclhoidiaaW.PrintLast Go.Proofs.YtilfgmclhoidiaaW.PrintMore
theorem part_ev (a b : Int) (ha : 0 ≤ a ∧ a ≤ 9223372036854775807) (hb : 0 ≤ b ∧ b ≤ 9223372036854775807) : Ev (fun k => fixed_Part.f k a b) (mn (a * b / 10000) 9223372036854775807) := by
  have c1 : ¬ a < 0 := by omega
  have c2 : ¬ b < 0 := by omega
  have h1 : IntKind.u64.wrap a = a := w64_id (by omega) (by omega)
  have h2 : IntKind.u64.wrap b = b := w64_id (by omega) (by omega)
  have hm : bits_Mul64.f a b = some (a * b / 18446744073709551616, a * b % 18446744073709551616) := by
    unfold bits_Mul64.f
    rw [if_pos ⟨⟨by omega, by omega⟩, ⟨by omega, by omega⟩⟩]
  have hp : 0 ≤ a * b := Int.mul_nonneg ha.1 hb.1
  unfold fixed_Part.f
  refine Base.Ev.neg c1 (Ev.step (f := fun k => _) (fun k => by rw [fixed_Part.j0]) ?_)
  rw [h1, h2]
  refine Base.Ev.neg (by simpa using c2) (Ev.bind (a := (a * b / 18446744073709551616, a * b % 18446744073709551616)) ⟨0, fun _ _ => hm⟩ ?_)
  clear hm h1 h2 ha hb
  generalize a * b = p at *
  by_cases c : p / 18446744073709551616 ≥ 10000
  · refine Base.Ev.pos c (Base.Ev.val ?_)
    unfold mn
    rw [if_pos (by omega)]
  · refine Base.Ev.neg c ?_
    have hd := div64_eq (p / 18446744073709551616) (p % 18446744073709551616) 10000 (by omega) (by omega) (by omega) (by omega) (by omega)
    have e : p / 18446744073709551616 * 18446744073709551616 + p % 18446744073709551616 = p := by omega
    rw [e] at hd
    refine Ev.bind (a := (p / 10000, p % 10000)) (Ev.of (bits_Div64.mono _ _ _) (k := 13) hd) (Base.Ev.val ?_)
    have h0 : 0 ≤ p / 10000 := by omega
    refine wrap_id ?_ ?_ <;> (unfold mn; split <;> omega)

theorem sum_ev (s x : Int) (hs : i64 s) (hx : i64 x) : Ev (fun k => purflingref01_Sum.f k s x) (sat (s + x)) := by
  unfold i64 at *
  unfold purflingref01_Sum.f
  by_cases c : x > 0
  · refine Base.Ev.pos c (Ev.step (f := fun k => _) (fun k => by rw [purflingref01_Sum.j0]) ?_)
    have e : wrap64 (9223372036854775807 - x) = 9223372036854775807 - x := wrap_id (by omega) (by omega)
    rw [e]
    by_cases c2 : s > 9223372036854775807 - x
    · refine Base.Ev.pos (by simpa using c2) (Base.Ev.val ?_)
      unfold sat
      rw [if_neg (by omega), if_pos (by omega)]
    · refine Base.Ev.neg (by simpa using c2) (Base.Ev.neg (by omega) (Base.Ev.val ?_))
      rw [wrap_id (by omega) (by omega)]
      unfold sat
      rw [if_neg (by omega), if_neg (by omega)]
  · refine Base.Ev.neg c (Ev.step (f := fun k => _) (fun k => by rw [purflingref01_Sum.j0]) ?_)
    refine Base.Ev.neg (by simp) ?_
    by_cases c1 : x < 0
    · refine Base.Ev.pos c1 ?_
      have e : wrap64 (-9223372036854775808 - x) = -9223372036854775808 - x := wrap_id (by omega) (by omega)
      rw [e]
      by_cases c2 : s < -9223372036854775808 - x
      · refine Base.Ev.pos c2 (Base.Ev.val ?_)
        unfold sat
        rw [if_pos (by omega)]
      · refine Base.Ev.neg c2 (Base.Ev.val ?_)
        rw [wrap_id (by omega) (by omega)]
        unfold sat
        rw [if_neg (by omega), if_neg (by omega)]
    · refine Base.Ev.neg c1 (Base.Ev.val ?_)
      rw [wrap_id (by omega) (by omega)]
      unfold sat
      rw [if_neg (by omega), if_neg (by omega)]
theorem refPart_ev (a b : Int) (ha : 0 ≤ a ∧ a ≤ 9223372036854775807) (hb : 0 ≤ b ∧ b ≤ 9223372036854775807) : Ev (fun k => purflingref01_Part.f k a b) (mn (a * b / 10000) 9223372036854775807) := by
  have c1 : ¬ a < 0 := by omega
  have c2 : ¬ b < 0 := by omega
  have h1 : IntKind.u64.wrap a = a := w64_id (by omega) (by omega)
  have h2 : IntKind.u64.wrap b = b := w64_id (by omega) (by omega)
  have hm : bits_Mul64.f a b = some (a * b / 18446744073709551616, a * b % 18446744073709551616) := by
    unfold bits_Mul64.f
    rw [if_pos ⟨⟨by omega, by omega⟩, ⟨by omega, by omega⟩⟩]
  have hp : 0 ≤ a * b := Int.mul_nonneg ha.1 hb.1
  unfold purflingref01_Part.f
  refine Base.Ev.neg c1 (Ev.step (f := fun k => _) (fun k => by rw [purflingref01_Part.j0]) ?_)
  rw [h1, h2]
  refine Base.Ev.neg (by simpa using c2) (Ev.bind (a := (a * b / 18446744073709551616, a * b % 18446744073709551616)) ⟨0, fun _ _ => hm⟩ ?_)
  clear hm h1 h2 ha hb
  generalize a * b = p at *
  by_cases c : p / 18446744073709551616 ≥ 10000
  · refine Base.Ev.pos c (Base.Ev.val ?_)
    unfold mn
    rw [if_pos (by omega)]
  · refine Base.Ev.neg c ?_
    have hd := div64_eq (p / 18446744073709551616) (p % 18446744073709551616) 10000 (by omega) (by omega) (by omega) (by omega) (by omega)
    have e : p / 18446744073709551616 * 18446744073709551616 + p % 18446744073709551616 = p := by omega
    rw [e] at hd
    refine Ev.bind (a := (p / 10000, p % 10000)) (Ev.of (bits_Div64.mono _ _ _) (k := 13) hd) ?_
    have h0 : 0 ≤ p / 10000 := by omega
    by_cases c3 : p / 10000 > 9223372036854775807
    · refine Base.Ev.pos c3 (Base.Ev.val ?_)
      unfold mn
      rw [if_pos (by omega)]
    · refine Base.Ev.neg c3 (Base.Ev.val ?_)
      unfold mn
      rw [if_neg (by omega)]
      exact wrap_id (by omega) (by omega)
theorem part_both (a b : Int) (ha : i64 a) (hb : i64 b) : ∃ v, Ev (fun k => fixed_Part.f k a b) v ∧ Ev (fun k => purflingref01_Part.f k a b) v := by
  unfold i64 at *
  by_cases c : a < 0
  · refine ⟨0, ?_, ?_⟩
    · unfold fixed_Part.f
      exact Base.Ev.pos c (Ev.step (f := fun k => _) (fun k => by rw [fixed_Part.j0]) (Base.Ev.pos rfl (Ev.now _)))
    · unfold purflingref01_Part.f
      exact Base.Ev.pos c (Ev.step (f := fun k => _) (fun k => by rw [purflingref01_Part.j0]) (Base.Ev.pos rfl (Ev.now _)))
  · by_cases c2 : b < 0
    · refine ⟨0, ?_, ?_⟩
      · unfold fixed_Part.f
        exact Base.Ev.neg c (Ev.step (f := fun k => _) (fun k => by rw [fixed_Part.j0]) (Base.Ev.pos (by simpa using c2) (Ev.now _)))
      · unfold purflingref01_Part.f
        exact Base.Ev.neg c (Ev.step (f := fun k => _) (fun k => by rw [purflingref01_Part.j0]) (Base.Ev.pos (by simpa using c2) (Ev.now _)))
    · exact ⟨_, part_ev a b ⟨by omega, by omega⟩ ⟨by omega, by omega⟩, refPart_ev a b ⟨by omega, by omega⟩ ⟨by omega, by omega⟩⟩
end Go.Proofs.Ytilfgmclhoidiaa.Base
