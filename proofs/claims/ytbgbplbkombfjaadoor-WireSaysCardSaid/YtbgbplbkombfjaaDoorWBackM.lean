/- What was written is read: the message. -/
import Derived.Test.YtbgbplbkombfjaaDoorWReadL
import Derived.Test.YtbgbplbkombfjaaDoorWBackL
namespace Go.Proofs.YtbgbplbkombfjaaDoor
open Go.RowKit Go.Proofs.YtbgbplbkombfjaaDoorW.PrintWords SumPlain
set_option linter.unusedVariables false
theorem msgL_drop (m : Msg) : (msgL m).drop 4 = (rawM m).drop 4 := by
  have hl : (msgL m).length = (rawM m).length := by rw [msgL, putL_length]
  apply List.ext_getElem (by rw [List.length_drop, List.length_drop, hl])
  intro i h1 h2
  have e := putL_getD (rawM m) 2 (4 + i) (by omega) (by omega)
  rw [List.length_drop] at h1 h2
  rw [List.getElem_drop, List.getElem_drop]
  have e' : (msgL m).getD (4 + i) 0 = (rawM m).getD (4 + i) 0 := e
  rwa [List.getD_eq_getElem?_getD, List.getD_eq_getElem?_getD, List.getElem?_eq_getElem (by omega), List.getElem?_eq_getElem (by omega)] at e'
end Go.Proofs.YtbgbplbkombfjaaDoor
