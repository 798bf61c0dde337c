/- The plain law of bids: an order; the best of a list. -/
import Derived.Test.YtjcihhkeehjgdaaBestFirst
namespace Go.Proofs.Ytjcihhkeehjgdaa
open Go.RowKit Go.Proofs.YtjcihhkeehjgdaaW.PrintWords
set_option linter.unusedVariables false
set_option linter.unusedSimpArgs false
theorem better_iff (a b : SBid) : better a b = true ↔ a.f0 < b.f0 ∨ (a.f0 = b.f0 ∧ b.f1 < a.f1) := by simp [better]
theorem better_not (a b : SBid) : better a b = false ↔ ¬ (a.f0 < b.f0 ∨ (a.f0 = b.f0 ∧ b.f1 < a.f1)) := by rw [← better_iff, Bool.not_eq_true]
theorem better_irrefl (a : SBid) : better a a = false := by rw [better_not]; omega
theorem better_trans {a b c : SBid} (h1 : better a b = true) (h2 : better b c = true) : better a c = true := by
  rw [better_iff] at *; omega
theorem best_none (l : List SBid) : ∀ k j, j < k → better (l.getD j zBid) (l.getD (bestTo l k) zBid) = false
  | 0, j, h => absurd h (by omega)
  | k + 1, j, h => by
    have ih := best_none l k
    simp only [bestTo]
    split
    · rename_i hb
      rcases Nat.lt_or_ge j k with hj | hj
      · cases hc : better (l.getD j zBid) (l.getD k zBid) with
        | false => rfl
        | true =>
          have := ih j hj
          rw [better_trans hc hb] at this
          cases this
      · obtain rfl : j = k := by omega
        exact better_irrefl _
    · rename_i hb
      rcases Nat.lt_or_ge j k with hj | hj
      · exact ih j hj
      · obtain rfl : j = k := by omega
        simpa using hb
theorem best_any_false (l : List SBid) : l.any (fun x => better x (l.getD (bestTo l l.length) zBid)) = false := by
  rw [List.any_eq_false]
  intro x hx
  obtain ⟨j, hj, rfl⟩ := List.getElem_of_mem hx
  have := best_none l l.length j hj
  rw [List.getD_eq_getElem?_getD, List.getElem?_eq_getElem hj] at this
  simpa using this
end Go.Proofs.Ytjcihhkeehjgdaa
