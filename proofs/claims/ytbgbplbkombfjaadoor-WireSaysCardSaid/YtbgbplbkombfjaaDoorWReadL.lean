/- What wire.Read comes to: the plain reading of a message. -/
import Derived.Test.YtbgbplbkombfjaaDoorWRdr
import Derived.Test.YtbgbplbkombfjaaDoorWInj
namespace Go.Proofs.YtbgbplbkombfjaaDoor
open Go.RowKit Go.Proofs.YtbgbplbkombfjaaDoorW.PrintWords SumPlain
set_option linter.unusedVariables false
/-- So many addresses. -/
def rLs : Nat → List Int × Bool → List Int × (List Int × Bool)
  | 0, s => ([], s)
  | k + 1, s => ((rA s).1 :: (rLs k (rA s).2).1, (rLs k (rA s).2).2)
def zMsg : Msg := ⟨0, 0, 0, 0, 0, 0, 0, false, []⟩
/-- The fields of a kind, the byte that says 'only', what is left. -/
def msgR (K : Int) (s : List Int × Bool) : Msg × Int × (List Int × Bool) :=
  if K = 1 then (⟨1, (rA s).1, 0, 0, 0, (rN (rA s).2).1, 0, false, []⟩, 0, (rN (rA s).2).2)
  else if K = 2 then (⟨2, (rA s).1, (rA (rA s).2).1, (rA (rA (rA s).2).2).1, (rA (rA (rA (rA s).2).2).2).1, 0, 0, false, []⟩, 0, (rA (rA (rA (rA s).2).2).2).2)
  else if K = 3 then (⟨3, (rA s).1, 0, (rA (rA s).2).1, (rA (rA (rA s).2).2).1, 0, (rN (rA (rA (rA s).2).2).2).1, false, []⟩, 0, (rN (rA (rA (rA s).2).2).2).2)
  else if K = 4 then
    (⟨4, (rA s).1, 0, 0, (rA (rA s).2).1, 0, 0, decide ((rB (rA (rA s).2).2).1 = 1), (rLs (rB (rB (rA (rA s).2).2).2).1.toNat (rB (rB (rA (rA s).2).2).2).2).1⟩, (rB (rA (rA s).2).2).1, (rLs (rB (rB (rA (rA s).2).2).2).1.toNat (rB (rB (rA (rA s).2).2).2).2).2)
  else (⟨5, (rA s).1, 0, 0, (rA (rA s).2).1, 0, 0, false, []⟩, 0, (rA (rA s).2).2)
def readM (l : List Int) : Msg × Option Nat :=
  if l.length < 4 then (zMsg, some 1)
  else if ofL l ≠ 0 then (zMsg, some 3)
  else if l.getD 1 0 ≠ 0 then (zMsg, some 2)
  else if ¬ (1 ≤ l.getD 0 0 - 32 ∧ l.getD 0 0 - 32 ≤ 5) then (zMsg, some 4)
  else if (msgR (l.getD 0 0 - 32) (l.drop 4, false)).2.2.2 = true then (zMsg, some 1)
  else if 0 < (msgR (l.getD 0 0 - 32) (l.drop 4, false)).2.2.1.length ∨ 1 < (msgR (l.getD 0 0 - 32) (l.drop 4, false)).2.1 then (zMsg, some 2)
  else match validL (msgR (l.getD 0 0 - 32) (l.drop 4, false)).1 with
    | some i => (zMsg, some i)
    | none => ((msgR (l.getD 0 0 - 32) (l.drop 4, false)).1, none)
end Go.Proofs.YtbgbplbkombfjaaDoor
