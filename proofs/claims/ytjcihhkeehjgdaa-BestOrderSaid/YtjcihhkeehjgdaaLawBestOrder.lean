/- BestOrder: the walk of the law. -/
import Derived.Test.YtjcihhkeehjgdaaBestPlain
import Derived.Deep.RegionHeld3
namespace Go.Proofs.Ytjcihhkeehjgdaa
open Go.RowKit Go.Proofs.YtjcihhkeehjgdaaW.PrintWords
set_option linter.unusedVariables false
set_option linter.unusedSimpArgs false
/-- Three bids in their boxes. -/
structure Bx (a b c : SBid) (g : Nat) (w0 W : World) : Prop where
  a0 : W.cell? ⟨g, 0, none⟩ = some (.int .i64 a.f0)
  a1 : W.cell? ⟨g, 1, none⟩ = some (.int .u32 a.f1)
  b0 : W.cell? ⟨g + 1, 0, none⟩ = some (.int .i64 b.f0)
  b1 : W.cell? ⟨g + 1, 1, none⟩ = some (.int .u32 b.f1)
  c0 : W.cell? ⟨g + 1 + 1, 0, none⟩ = some (.int .i64 c.f0)
  c1 : W.cell? ⟨g + 1 + 1, 1, none⟩ = some (.int .u32 c.f1)
  bel : Below g w0 W
  sz : g + 1 + 1 < W.heap.size
  sz0 : g < W.heap.size
  sz1 : g + 1 < W.heap.size
theorem Bx.step {a b c : SBid} {g : Nat} {w0 W W2 : World} (h : Bx a b c g w0 W) (hb : Below W.heap.size W W2) : Bx a b c g w0 W2 :=
  ⟨pw_cell_below hb h.a0, pw_cell_below hb h.a1, pw_cell_below hb h.b0, pw_cell_below hb h.b1, pw_cell_below hb h.c0, pw_cell_below hb h.c1, below_then h.bel (by have := h.sz; omega) hb, Nat.lt_of_lt_of_le h.sz hb.size, Nat.lt_of_lt_of_le h.sz0 hb.size, Nat.lt_of_lt_of_le h.sz1 hb.size⟩
theorem better_v {a b : SBid} {v : Bool} (h : better a b = v) (W : World) : Calls Try.prog 17 #[.agg #[.int .i64 a.f0, .int .u32 a.f1], .agg #[.int .i64 b.f0, .int .u32 b.f1]] W fun e w' => e = .returned (.bool v) ∧ Below W.heap.size W w' := by
  rw [← h]; exact better_any a b W
theorem best_same {a b : SBid} (h1 : better a b = false) (h2 : better b a = false) : a = b := by
  obtain ⟨a0, a1⟩ := a
  obtain ⟨b0, b1⟩ := b
  rw [better_not] at h1 h2
  simp only at h1 h2
  have e0 : a0 = b0 := by omega
  have e1 : a1 = b1 := by omega
  rw [e0, e1]
theorem best_none' (l : List SBid) (x : SBid) (hx : x ∈ l) : better x (l.getD (bestTo l l.length) zBid) = false := by
  obtain ⟨j, hj, rfl⟩ := List.getElem_of_mem hx
  have := best_none l l.length j hj
  rwa [List.getD_eq_getElem?_getD (l := l) (i := j), List.getElem?_eq_getElem hj] at this
theorem bestTo_mem (l : List SBid) (h : 0 < l.length) : l.getD (bestTo l l.length) zBid ∈ l := by
  have hb := bestTo_le l l.length
  rw [List.getD_eq_getElem?_getD, List.getElem?_eq_getElem (show bestTo l l.length < l.length by omega)]
  exact List.getElem_mem _
theorem best_both (a b c : SBid) : [a, b, c].getD (bestTo [a, b, c] 3) zBid = [c, a, b].getD (bestTo [c, a, b] 3) zBid := by
  have m1 := bestTo_mem [a, b, c] (by simp)
  have m2 := bestTo_mem [c, a, b] (by simp)
  refine best_same ?_ ?_
  · exact best_none' [c, a, b] _ (by simp at m1 ⊢; rcases m1 with h | h | h <;> simp [h])
  · exact best_none' [a, b, c] _ (by simp at m2 ⊢; rcases m2 with h | h | h <;> simp [h])
/-- The four ways in which three bids may stand to each other. -/
theorem ways (a b c : SBid) : (better a b = true ∧ better b a = false ∧ better b c = false ∧ (decide (a.f0 = b.f0) && decide (a.f1 = b.f1)) = false) ∨ (better a b = true ∧ better b a = false ∧ better b c = true ∧ better a c = true ∧ (decide (a.f0 = b.f0) && decide (a.f1 = b.f1)) = false) ∨
    (better a b = false ∧ better b a = true ∧ (decide (a.f0 = b.f0) && decide (a.f1 = b.f1)) = false) ∨ (better a b = false ∧ better b a = false ∧ a = b) := by
  cases h1 : better a b with
  | true =>
    have h2 : better b a = false := by rw [better_not]; rw [better_iff] at h1; omega
    have h3 : (decide (a.f0 = b.f0) && decide (a.f1 = b.f1)) = false := by rw [better_iff] at h1; rw [← Bool.not_eq_true, Bool.and_eq_true, decide_eq_true_eq, decide_eq_true_eq]; omega
    cases h4 : better b c with
    | false => exact .inl ⟨rfl, h2, rfl, h3⟩
    | true => exact .inr (.inl ⟨rfl, h2, rfl, better_trans h1 h4, h3⟩)
  | false =>
    cases h2 : better b a with
    | true => exact .inr (.inr (.inl ⟨rfl, rfl, by rw [better_iff] at h2; rw [← Bool.not_eq_true, Bool.and_eq_true, decide_eq_true_eq, decide_eq_true_eq]; omega⟩))
    | false => exact .inr (.inr (.inr ⟨rfl, rfl, best_same h1 h2⟩))
theorem reps3 (w : World) (a b c : SBid) : Reps (kBid.K w) 2 [a, b, c] [.int .i64 a.f0, .int .u32 a.f1, .int .i64 b.f0, .int .u32 b.f1, .int .i64 c.f0, .int .u32 c.f1] := reps_bid (reps_bid (reps_bid (reps_nil w) a) b) c
/-- How a and b stand to each other, field by field. -/
theorem fields (a b : SBid) : ((a.f0 == b.f0) = true ∧ (a.f1 == b.f1) = true) ∨ ((a.f0 == b.f0) = true ∧ (a.f1 == b.f1) = false) ∨ (a.f0 == b.f0) = false := by
  cases h0 : (a.f0 == b.f0) <;> cases h1 : (a.f1 == b.f1) <;> simp
set_option maxHeartbeats 8000000 in
set_option maxRecDepth 100000 in
theorem bestOrder_walk (a b c : SBid) (w : World) :
    Calls Try.prog 6 #[.agg #[.int .i64 a.f0, .int .u32 a.f1], .agg #[.int .i64 b.f0, .int .u32 b.f1], .agg #[.int .i64 c.f0, .int .u32 c.f1]] w fun e w' => e = .returned (.bool true) ∧ Below w.heap.size w w' := by
  have hu30 := Try.underlying30
  rcases ways a b c with ⟨hab, hba, hbc, hs⟩ | ⟨hab, hba, hbc, hac, hs⟩ | ⟨hab, hba, hs⟩ | ⟨hab, hba, hs⟩
  all_goals rcases fields a b with ⟨e0, e1⟩ | ⟨e0, e1⟩ | e0
  all_goals first
    | (exfalso; rw [beq_iff_eq] at e0 e1; simp [e0, e1] at hs; done)
    | (exfalso; subst hs; simp at e1; done)
    | (exfalso; subst hs; simp at e0; done)
    | skip
  all_goals
    have HAB := better_v hab
    have HBA := better_v hba
    try have HBC := better_v hbc
    try have HAC := better_v hac
    clear hab hba hs
    try clear hbc
    try clear hac
    have HAB := Aside0.mk HAB
    have HBA := Aside0.mk HBA
    try have HBC := Aside0.mk HBC
    try have HAC := Aside0.mk HAC
    go_enter Try.func6, Try.ntmps6
    go_wp2_with fail
    have HX : Bx a b c w.heap.size w (((w.alloc (.cells #[.int .i64 a.f0, .int .u32 a.f1] 30 (0, 0))).alloc (.cells #[.int .i64 b.f0, .int .u32 b.f1] 30 (0, 0))).alloc (.cells #[.int .i64 c.f0, .int .u32 c.f1] 30 (0, 0))) := by
      have k0 := blk_new w (.cells #[.int .i64 a.f0, .int .u32 a.f1] 30 (0, 0))
      have k1 := blk_new (w.alloc (.cells #[.int .i64 a.f0, .int .u32 a.f1] 30 (0, 0))) (.cells #[.int .i64 b.f0, .int .u32 b.f1] 30 (0, 0))
      have k2 := blk_new ((w.alloc (.cells #[.int .i64 a.f0, .int .u32 a.f1] 30 (0, 0))).alloc (.cells #[.int .i64 b.f0, .int .u32 b.f1] 30 (0, 0))) (.cells #[.int .i64 c.f0, .int .u32 c.f1] 30 (0, 0))
      have k01 := blk_alloc (blk_alloc k0 (.cells #[.int .i64 b.f0, .int .u32 b.f1] 30 (0, 0))) (.cells #[.int .i64 c.f0, .int .u32 c.f1] 30 (0, 0))
      have k11 := blk_alloc k1 (.cells #[.int .i64 c.f0, .int .u32 c.f1] 30 (0, 0))
      simp only [World.size_alloc] at k0 k1 k2 k01 k11
      exact ⟨(blk_cell k01 0).trans rfl, (blk_cell k01 1).trans rfl, (blk_cell k11 0).trans rfl, (blk_cell k11 1).trans rfl, (blk_cell k2 0).trans rfl, (blk_cell k2 1).trans rfl, (((Below.refl _ _).alloc (Nat.le_refl _) _).alloc (by simp) _).alloc (by simp; omega) _, by simp, by simp; omega, by simp⟩
    generalize ((w.alloc (.cells #[.int .i64 a.f0, .int .u32 a.f1] 30 (0, 0))).alloc (.cells #[.int .i64 b.f0, .int .u32 b.f1] 30 (0, 0))).alloc (.cells #[.int .i64 c.f0, .int .u32 c.f1] 30 (0, 0)) = W at *
    obtain ⟨g, hge⟩ : ∃ g, g = w.heap.size := ⟨_, rfl⟩
    rw [← hge] at HX ⊢
    have HGE := Aside0.mk hge
    clear hge
    refine (first18_any W).mono ?_
    rintro e w1 ⟨rfl, hb1⟩
    replace HX := HX.step hb1
    obtain ⟨z0, z1, z2, z3, z4, z5, _, zsz, zsz0, zsz1⟩ := id HX
    clear hb1
    go_wp2_with (go_at_call 17; (first | (with_reducible refine (HAB.out _).mono ?_) | (with_reducible refine (HBA.out _).mono ?_) | (with_reducible refine (HBC.out _).mono ?_) | (with_reducible refine (HAC.out _).mono ?_)); rintro e w2 ⟨rfl, hb2⟩; have hB2 : Bx a b c g w w2 := Bx.step (by assumption) hb2; obtain ⟨y0, y1, y2, y3, y4, y5, _, ysz, ysz0, ysz1⟩ := id hB2)
    have kl := blk_alloc (blk_new w2 (.cells #[.int .i64 a.f0, .int .u32 a.f1, .int .i64 b.f0, .int .u32 b.f1, .int .i64 c.f0, .int .u32 c.f1] 30 (0, 0))) (.cells #[.int .i64 c.f0, .int .u32 c.f1, .int .i64 a.f0, .int .u32 a.f1, .int .i64 b.f0, .int .u32 b.f1] 30 (0, 0))
    have km := blk_new (w2.alloc (.cells #[.int .i64 a.f0, .int .u32 a.f1, .int .i64 b.f0, .int .u32 b.f1, .int .i64 c.f0, .int .u32 c.f1] 30 (0, 0))) (.cells #[.int .i64 c.f0, .int .u32 c.f1, .int .i64 a.f0, .int .u32 a.f1, .int .i64 b.f0, .int .u32 b.f1] 30 (0, 0))
    simp only [World.size_alloc] at km
    have hbW : Below g w ((w2.alloc (.cells #[.int .i64 a.f0, .int .u32 a.f1, .int .i64 b.f0, .int .u32 b.f1, .int .i64 c.f0, .int .u32 c.f1] 30 (0, 0))).alloc (.cells #[.int .i64 c.f0, .int .u32 c.f1, .int .i64 a.f0, .int .u32 a.f1, .int .i64 b.f0, .int .u32 b.f1] 30 (0, 0))) := (hB2.bel.alloc (by omega) _).alloc (by simp; omega) _
    generalize ((w2.alloc (.cells #[.int .i64 a.f0, .int .u32 a.f1, .int .i64 b.f0, .int .u32 b.f1, .int .i64 c.f0, .int .u32 c.f1] 30 (0, 0))).alloc (.cells #[.int .i64 c.f0, .int .u32 c.f1, .int .i64 a.f0, .int .u32 a.f1, .int .i64 b.f0, .int .u32 b.f1] 30 (0, 0))) = W2 at *
    generalize w2.heap.size = gl at *
    have hl : Kd.C kBid W2 (some ⟨gl, 0, none⟩) 3 [a, b, c] := C_of_block kBid kl (reps3 W2 a b c) (by simp)
    have hm : Kd.C kBid W2 (some ⟨gl + 1, 0, none⟩) 3 [c, a, b] := C_of_block kBid km (reps3 W2 c a b) (by simp)
    have hi2 := bestTo_le [a, b, c] 3
    have hk2 := bestTo_le [c, a, b] 3
    have hboth := best_both a b c
    obtain ⟨i, hi⟩ : ∃ i, i = bestTo [a, b, c] 3 := ⟨_, rfl⟩
    obtain ⟨k, hk⟩ : ∃ k, k = bestTo [c, a, b] 3 := ⟨_, rfl⟩
    have hgW : g ≤ W2.heap.size := by have := blk_lt kl; omega
    rw [← hi] at hi2 hboth
    rw [← hk] at hk2 hboth
    have HI := Aside0.mk hi
    have HK := Aside0.mk hk
    have HBOTH := Aside0.mk hboth
    clear kl km hi hk hboth y0 y1 y2 y3 y4 y5 hb2 hB2 z0 z1 z2 z3 z4 z5 HX
    refine (best_any _ 3 3 [a, b, c] W2 hl (by omega)).mono ?_
    rintro e w3 ⟨rfl, hb3⟩
    rw [← HI.out]
    go_wp2_with fail
    refine (best_any _ 3 3 [c, a, b] w3 (Kd.C_below hm hb3) (by omega)).mono ?_
    rintro e w4 ⟨rfl, hb4⟩
    rw [← HK.out]
    have hb34 := below_then hb3 hb3.size hb4
    have hbw4 := below_then hbW hgW hb34
    obtain ⟨ad, x, e1, x0, x1, HXX⟩ := bid_at (Kd.C_below hl hb34) i (by omega)
    obtain ⟨ad2, y, e2, y0, y1, HYY⟩ := bid_at (Kd.C_below hm hb34) k (by omega)
    cases e1
    cases e2
    obtain rfl : y = x := by rw [HXX.out, HYY.out, HBOTH.out]
    simp only [add_plain] at x0 x1 y0 y1
    have hi3 : (i : Int) < 3 := by omega
    have hk3 : (k : Int) < 3 := by omega
    clear hb3 hb4 hb34 hl hm
    go_wp2_with fail
    go_quiet (fail)
    go_wp2
    go_ret
    exact ⟨rfl, by rw [← HGE.out]; exact pw_below_drewN hbw4 _⟩
end Go.Proofs.Ytjcihhkeehjgdaa
