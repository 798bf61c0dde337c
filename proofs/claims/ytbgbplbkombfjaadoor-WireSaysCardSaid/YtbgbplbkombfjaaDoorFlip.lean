/- A bit of a byte turned; a number in its bounds. -/
import Derived.Test.YtbgbplbkombfjaaDoorSmall
namespace Go.Proofs.YtbgbplbkombfjaaDoor
open Go.RowKit Go.Proofs.YtbgbplbkombfjaaDoorW.PrintWords
set_option linter.unusedVariables false
set_option linter.unusedSimpArgs false
def flip (u : Int) (t : Nat) : Int := bits BinOp.xor IntKind.u8 u (2 ^ t % 256)
theorem flip_all : ∀ u : Fin 256, ∀ t : Fin 8, 0 ≤ flip (u.val : Int) t.val ∧ flip (u.val : Int) t.val ≤ 255 ∧ (flip (u.val : Int) t.val = (u.val : Int) + 2 ^ t.val ∨ flip (u.val : Int) t.val = (u.val : Int) - 2 ^ t.val) ∧ flip (flip (u.val : Int) t.val) t.val = (u.val : Int) := by decide +kernel
theorem flip_any (u : Int) (t : Nat) (h0 : 0 ≤ u) (h1 : u ≤ 255) (ht : t < 8) : 0 ≤ flip u t ∧ flip u t ≤ 255 ∧ (flip u t = u + 2 ^ t ∨ flip u t = u - 2 ^ t) ∧ flip (flip u t) t = u := by
  obtain ⟨v, rfl⟩ := Int.eq_ofNat_of_zero_le h0
  exact flip_all ⟨v, by omega⟩ ⟨t, ht⟩
theorem number_ex (by_ : Int) (m : Int) (hm : 1 ≤ m) (hm2 : m ≤ 1000000) (hwf : (Lit.int .i64 by_).wf = true) :
    ∃ q : Nat, (q : Int) < m ∧ Aside0 (∀ W : World, Calls Tryd.prog 24 #[.int .i64 by_, .int .i64 m] W fun e w' => e = .returned (.int .i64 (q : Int)) ∧ W = w') := by
  have h1 := Int.emod_nonneg by_ (show m ≠ 0 by omega)
  have h2 := Int.emod_lt_of_pos by_ (show 0 < m by omega)
  obtain ⟨q, hq⟩ := Int.eq_ofNat_of_zero_le h1
  exact ⟨q, by omega, ⟨fun W => by rw [← hq]; exact number_any by_ m W hm hm2 hwf⟩⟩
end Go.Proofs.YtbgbplbkombfjaaDoor
