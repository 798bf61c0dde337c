/- Package api's errors: where their variables point; in later worlds too. -/
import Derived.Test.YtbgbplbkombfjaaDoorAddr
import Derived.LaidEql
namespace Go.Proofs.YtbgbplbkombfjaaDoor
open Go.RowKit Go.Proofs.YtbgbplbkombfjaaDoorW.PrintWords SumPlain
set_option linter.unusedVariables false
set_option linter.unusedSimpArgs false
/-- An error as a value: none, or one of the variables' own, by the variable's number. -/
def errV (E : Nat → Addr) : Option Nat → Value
  | none => .nilIface
  | some i => .iface 114 (.pointer (some (E i)))
structure Errs (S : List Nat) (E : Nat → Addr) (w : World) : Prop where
  cell : ∀ i, i ∈ S → w.cell? ⟨i, 0, none⟩ = some (.iface 114 (.pointer (some (E i))))
  blk : ∀ i, i ∈ S → ∃ c t, w.heap[(E i).block]? = some (.cells c t (0, 0))
  ne : ∀ i j, i ∈ S → j ∈ S → i ≠ j → E i ≠ E j
theorem Errs.below {S : List Nat} {E : Nat → Addr} {w w1 : World} (h : Errs S E w) (hb : Below w.heap.size w w1) : Errs S E w1 :=
  ⟨fun i hi => pw_cell_below hb (h.cell i hi), fun i hi => by obtain ⟨c, t, hc⟩ := h.blk i hi; exact ⟨c, t, blk_below hc hb⟩, h.ne⟩
theorem Errs.sub {S S' : List Nat} {E : Nat → Addr} {w : World} (h : Errs S E w) (hs : ∀ i, i ∈ S' → i ∈ S) : Errs S' E w :=
  ⟨fun i hi => h.cell i (hs i hi), fun i hi => h.blk i (hs i hi), fun i j hi hj => h.ne i j (hs i hi) (hs j hj)⟩
end Go.Proofs.YtbgbplbkombfjaaDoor
