/- best.Best, best.Lost: what they come to at any bids. -/
import Derived.Test.YtjcihhkeehjgdaaBid
import Derived.Deep.RegionWith
import Derived.StillTailTactics
namespace Go.Proofs.Ytjcihhkeehjgdaa
open Go.RowKit Go.Proofs.YtjcihhkeehjgdaaW.PrintWords
set_option linter.unusedVariables false
set_option linter.unusedSimpArgs false
/-- The place of the best of the first k. -/
def bestTo (l : List SBid) : Nat → Nat
  | 0 => 0
  | k + 1 => if better (l.getD k zBid) (l.getD (bestTo l k) zBid) = true then k else bestTo l k
theorem bestTo_le (l : List SBid) : ∀ k, bestTo l k ≤ k - 1
  | 0 => by simp [bestTo]
  | k + 1 => by
    have := bestTo_le l k
    simp only [bestTo]
    split <;> omega
set_option maxHeartbeats 400000 in
set_option maxRecDepth 100000 in
theorem best_any (A : Option Addr) (n c : Nat) (l : List SBid) (w : World) (hr : Kd.C kBid w A n l) (hl : n ≤ 1000000) :
    Calls Try.prog 15 #[.slice A n c] w fun e w' => e = .returned (.tuple #[.int .i64 (bestTo l n : Nat), .bool (decide (0 < n))]) ∧ Below w.heap.size w w' := by
  have hu30 := Try.underlying30
  have HR := Aside0.mk hr
  clear hr
  go_enter Try.func15, Try.ntmps15
  go_wp2
  go_loopg [4, 9] n (fun k v i w' => ∃ j : Nat, j + k = n ∧ i = .int .i64 j ∧ v = .int .i64 (bestTo l j : Nat) ∧ Below w.heap.size w w')
  case atStart => exact ⟨0, by omega, rfl, rfl, Below.refl _ _⟩
  case round =>
    obtain ⟨j, hj, rfl, rfl, hbel⟩ := hrel
    by_cases hlt : j < n
    · have hC := Kd.C_below HR.out hbel
      have hble := bestTo_le l j
      obtain ⟨b, hbe⟩ : ∃ b, b = bestTo l j := ⟨_, rfl⟩
      have HS : Aside0 (bestTo l (j + 1) = if better (l.getD j zBid) (l.getD b zBid) = true then j else b) := ⟨by rw [hbe]; rfl⟩
      rw [← hbe] at hble ⊢
      clear hbe
      obtain ⟨ad, x, rfl, h0, h1, HX⟩ := bid_at hC j hlt
      obtain ⟨ad', y, e, h2, h3, HY⟩ := bid_at hC b (by omega)
      cases e
      have hbsz := hbel.size
      clear h0 h1 h2 h3
      obtain ⟨hc0, hc1, _⟩ : True ∧ True ∧ True := ⟨trivial, trivial, trivial⟩
      obtain ⟨ad2, x2, e2, h0, h1, HX2⟩ := bid_at hC j hlt
      cases e2
      obtain rfl : x2 = x := by rw [HX.out, HX2.out]
      clear HX2
      go_wp2_with fail
      have hbW := hbel.alloc hbsz (.cells #[.int .i64 x2.f0, .int .u32 x2.f1] 30 (0, 0))
      have hblk : (wr.alloc (.cells #[.int .i64 x2.f0, .int .u32 x2.f1] 30 (0, 0))).heap[wr.heap.size]? = some (.cells #[.int .i64 x2.f0, .int .u32 x2.f1] 30 (0, 0)) := heap_alloc_new wr _
      have hCW := Kd.C_below hC ((Below.refl wr.heap.size wr).alloc (Nat.le_refl _) (.cells #[.int .i64 x2.f0, .int .u32 x2.f1] 30 (0, 0)))
      clear h0 h1 hC hbel hc0 hc1
      generalize wr.alloc (.cells #[.int .i64 x2.f0, .int .u32 x2.f1] 30 (0, 0)) = W at *
      generalize wr.heap.size = g at *
      obtain ⟨ad3, y2, e3, h2, h3, HY2⟩ := bid_at hCW b (by omega)
      cases e3
      obtain rfl : y2 = y := by rw [HY.out, HY2.out]
      clear HY2
      have q0 : W.cell? ⟨g, 0, none⟩ = some (.int .i64 x2.f0) := (blk_cell hblk 0).trans rfl
      have q1 : W.cell? ⟨g, 1, none⟩ = some (.int .u32 x2.f1) := (blk_cell hblk 1).trans rfl
      have hbWs := hbW.size
      clear hblk hbsz
      go_region_with (go_at_call 17; refine (better_any x2 y2 _).mono ?_; rintro e w2 ⟨rfl, hb2⟩)
      all_goals
        have hb3 := below_then (below_drew hbW) hbWs hb2
        rw [← HX.out, ← HY.out] at HS
        clear hb2 hbW
        cases hbt : better x2 y2 with
        | true =>
          rw [hbt, if_pos rfl] at HS
          clear hbt
          go_wp2
          go_roundg (gk - 1)
          case measure => omega
          case rel => exact ⟨j + 1, by omega, by go_num, word_int (by rw [HS.out]), hb3⟩
        | false =>
          rw [hbt, if_neg (by simp)] at HS
          clear hbt
          go_wp2
          go_roundg (gk - 1)
          case measure => omega
          case rel => exact ⟨j + 1, by omega, by go_num, word_int (by rw [HS.out]), hb3⟩
    · obtain rfl : j = n := by omega
      go_wp2
      go_ret2
      exact ⟨rfl, hbel⟩
end Go.Proofs.Ytjcihhkeehjgdaa
