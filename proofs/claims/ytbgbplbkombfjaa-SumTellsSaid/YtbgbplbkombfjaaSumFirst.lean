/- The chapter's example. -/
import Derived.Test.YtbgbplbkombfjaaSumRef
import Derived.Test.YtbgbplbkombfjaaSmall
namespace Go.Proofs.Ytbgbplbkombfjaa
open Go.RowKit Go.Proofs.YtbgbplbkombfjaaW.PrintWords SumPlain
set_option linter.unusedVariables false
set_option linter.unusedSimpArgs false
theorem C_none {α : Type} (d : Kd α) (w : World) : d.C w none 0 [] := ⟨rfl, by omega, fun h => absurd h (by omega)⟩
theorem first2_any (w : World) : Calls Try.prog 8 #[] w fun e w' => e = .returned (.bool true) ∧ w = w' := by
  have hof := of_any none 0 0 [] w (C_none _ w) (fun x hx => by simp at hx) (by simp)
  rw [show ofL [] = 65535 from by decide] at hof
  have HF := Aside0.mk hof
  clear hof
  go_enter Try.func8, Try.ntmps8
  go_wp2_with (go_at_call 11; refine HF.out.mono ?_; rintro e w1 ⟨rfl, rfl⟩)
  go_ret
  exact ⟨rfl, rfl⟩
end Go.Proofs.Ytbgbplbkombfjaa
