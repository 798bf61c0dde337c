/-
  'rivulet/rivuletlaw18.BestOrder': it returns true for every input; no condition of its own.
  The frame after the kit's proof-skeleton; the walk out of this seat's own texts.
-/
import Derived.Test.YtjcihhkeehjgdaaRows
import Derived.Test.YtjcihhkeehjgdaaLawBestOrder
import Derived.Test.YtjcihhkeehjgdaaRowBids
import Derived.WalkKit
import Derived.ProofKit
import Derived.OpenShut
import Derived.ShutString
import Derived.ChangeOld
import Derived.Below
namespace Go.Proofs.Ytjcihhkeehjgdaa.bestOrder
open Go.ChangeShapes Go.WideShapes Go.ChangeAt Go.RowKit Go.Proofs.YtjcihhkeehjgdaaW.PrintWords
open Go.ChangeMaps (open_string shut_string)
set_option linter.unusedVariables false
set_option linter.unusedSimpArgs false

theorem own : ownKnob Try.prog.godebug = none := by kernel_rfl
theorem laidOut : laidOutB Try.prog = true := by kernel_rfl

set_option maxRecDepth 100000 in
theorem lifted (os : Os) (started : os.Started) (H : Type) (enc : TypeId × Value → H) :
    ReturnsInHanded {} Try.checked os 6 .any (Rows.bestOrderSpec.pre6 enc Try.prog Try.f6 Rows.bestOrderRow.domain false) (Rows.bestOrderSpec.post enc Try.prog Try.f6 false true false false) := by
  refine returnsInHanded_of_change (C := Try.checked) own started (by kernel_rfl) Try.func6
    (ChangeSpec.witness6 (enc := enc) (C := Try.checked) false ⟨#[], #[.agg #[.int .i64 0, .int .u32 0], .agg #[.int .i64 0, .int .u32 0], .agg #[.int .i64 0, .int .u32 0]], []⟩ 8 (by kernel_rfl) (by kernel_rfl) (by kernel_rfl) (by kernel_rfl)) ?_
  intro W base args ds gs before hval0 hW hcnd _
  have hval : ∀ (j : Nat) t v, Try.f6.params[j]? = some t → args[j]? = some v → Value.okWide Try.prog W .any base t v := hval0
  have hW' := hW
  obtain ⟨p, q, hA0, hV, rfl, hfz, hnd⟩ := hW
  have hA : DataW.TrodAll enc Try.prog W 0 (fun _ => true) true Try.f6.params.toList args.toList ds p := hA0
  rw [Try.params6] at hA hval
  obtain ⟨v0, vs0, d0, ds0, p0, q0, hargs, rfl, rfl, h0, r0⟩ := trodAll_cons hA
  obtain ⟨v1, vs1, d1, ds1, p1, q1, rfl, rfl, rfl, h1, r1⟩ := trodAll_cons r0
  obtain ⟨v2, vs2, d2, ds2, p2, q2, rfl, rfl, rfl, h2, r2⟩ := trodAll_cons r1
  obtain ⟨rfl, rfl, rfl⟩ := trodAll_nil r2
  obtain rfl : args = #[v0, v1, v2] := by cases args; simp_all
  obtain ⟨rfl, rfl⟩ := trodVars_none hV
  obtain ⟨c0, rfl, _⟩ := okWide_struct Try.underlying30 (hval 0 30 v0 rfl rfl)
  have k0 := h0
  have lt0 : ∀ x ∈ p0, x.block < W.heap.size := by obtain ⟨m, hm⟩ := k0; exact DataW.trod_lt m _ _ _ hm
  obtain ⟨x0, hx0, hG0⟩ : ∃ x, c0 = #[.int .i64 x.f0, .int .u32 x.f1] ∧ GoodBid x := by
    obtain ⟨fuel, hf⟩ := h0
    obtain ⟨x, hK, hG⟩ := opens_bid fuel _ _ hf
    exact ⟨x, by have hq := kBid_open hK; apply Array.ext'; simpa [Value.cells] using hq, hG⟩
  subst hx0
  obtain ⟨c1, rfl, _⟩ := okWide_struct Try.underlying30 (hval 1 30 v1 rfl rfl)
  have k1 := h1
  have lt1 : ∀ x ∈ p1, x.block < W.heap.size := by obtain ⟨m, hm⟩ := k1; exact DataW.trod_lt m _ _ _ hm
  obtain ⟨x1, hx1, hG1⟩ : ∃ x, c1 = #[.int .i64 x.f0, .int .u32 x.f1] ∧ GoodBid x := by
    obtain ⟨fuel, hf⟩ := h1
    obtain ⟨x, hK, hG⟩ := opens_bid fuel _ _ hf
    exact ⟨x, by have hq := kBid_open hK; apply Array.ext'; simpa [Value.cells] using hq, hG⟩
  subst hx1
  obtain ⟨c2, rfl, _⟩ := okWide_struct Try.underlying30 (hval 2 30 v2 rfl rfl)
  have k2 := h2
  have lt2 : ∀ x ∈ p2, x.block < W.heap.size := by obtain ⟨m, hm⟩ := k2; exact DataW.trod_lt m _ _ _ hm
  obtain ⟨x2, hx2, hG2⟩ : ∃ x, c2 = #[.int .i64 x.f0, .int .u32 x.f1] ∧ GoodBid x := by
    obtain ⟨fuel, hf⟩ := h2
    obtain ⟨x, hK, hG⟩ := opens_bid fuel _ _ hf
    exact ⟨x, by have hq := kBid_open hK; apply Array.ext'; simpa [Value.cells] using hq, hG⟩
  subst hx2
  clear hA0 hval0
  refine (bestOrder_walk x0 x1 x2 W).mono fun e W' ⟨he, bel⟩ => ?_
  subst he
  exact ⟨_, rfl, _, _, _, [], _, [], hW', trodAll_mk1 (shut_bool Try.underlying4 _), (trodAll_cons_mk (Below.trod laidOut (by kernel_rfl) (of_decide_eq_true (by kernel_rfl)) k0 bel lt0) (trodAll_cons_mk (Below.trod laidOut (by kernel_rfl) (of_decide_eq_true (by kernel_rfl)) k1 bel lt1) (trodAll_cons_mk (Below.trod laidOut (by kernel_rfl) (of_decide_eq_true (by kernel_rfl)) k2 bel lt2) trodAll_mk0))), rfl, bel.frame _, fun h => by cases h⟩

theorem over : Rows.bestOrderRow.holds Try.pinned (OpenSpec.ofChange Rows.bestOrderSpec) :=
  OpenClaim.holds_of_wide 6 Try.f6 rfl rfl rfl rfl rfl rfl rfl ⟨rfl, rfl, rfl, rfl, rfl⟩ rfl rfl rfl rfl rfl (by kernel_rfl) Try.func6 (by kernel_rfl)
    (of_decide_eq_true (by kernel_rfl)) (by unfold Func.isWrapper; first | (rw [if_pos (by decide +kernel)]; kernel_rfl) | (rw [if_neg (by decide +kernel)]; exact ⟨rfl, rfl⟩))
    (fun os started H enc _ => lifted os started H enc)
theorem proved : Rows.BestOrderSaid := over
#print axioms proved
end Go.Proofs.Ytjcihhkeehjgdaa.bestOrder
namespace Go.Proofs.Ytjcihhkeehjgdaa
theorem bestOrder_holds : Rows.BestOrderSaid := bestOrder.proved
end Go.Proofs.Ytjcihhkeehjgdaa
