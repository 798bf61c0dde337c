/- Chapter 18's example, the reference's Cheap, a row of bids that a literal or an append has laid. -/
import Derived.Test.YtjcihhkeehjgdaaLost
namespace Go.Proofs.Ytjcihhkeehjgdaa
open Go.RowKit Go.Proofs.YtjcihhkeehjgdaaW.PrintWords
set_option linter.unusedVariables false
set_option linter.unusedSimpArgs false
theorem C_of_block {α : Type} (d : Kd α) {W : World} {g : Nat} {t : TypeId} {cs : Array Value} {xs : List α} (h : W.heap[g]? = some (.cells cs t (0, 0))) (hrep : Reps (d.K W) d.sz xs cs.toList) (hm : xs.length ≤ 1000000) : d.C W (some ⟨g, 0, none⟩) xs.length xs := by
  refine ⟨rfl, by omega, fun _ => ⟨_, rfl, fun j p hj => ⟨_, ?_, hrep.2 j p hj, fun i u hu => ?_⟩⟩⟩
  · have hjl := (List.getElem?_eq_some_iff.1 hj).1
    have h1 : j * d.sz + d.sz ≤ cs.toList.length := by rw [hrep.1, ← Nat.succ_mul]; exact Nat.mul_le_mul_right _ hjl
    rw [List.length_take, List.length_drop]
    omega
  · rw [add_plain, blk_cell h]
    rw [List.getElem?_take] at hu
    split at hu
    · rw [List.getElem?_drop] at hu
      rw [← hu]
      simp
    · cases hu
theorem reps_nil (w : World) : Reps (kBid.K w) 2 [] [] := Reps.none _ _
theorem reps_bid {w : World} {xs : List SBid} {cs : List Value} (h : Reps (kBid.K w) 2 xs cs) (x : SBid) : Reps (kBid.K w) 2 (xs ++ [x]) (cs ++ [.int .i64 x.f0, .int .u32 x.f1]) := h.snoc (kBid_mk w x) rfl
set_option maxHeartbeats 400000 in
set_option maxRecDepth 100000 in
theorem refcheap_any (a b : SBid) (w : World) :
    Calls Try.prog 49 #[.int .i64 a.f0, .int .u32 a.f1, .int .i64 b.f0, .int .u32 b.f1] w fun e w' => e = .returned (.bool (better a b)) ∧ w = w' := by
  obtain ⟨a0, a1⟩ := a
  obtain ⟨b0, b1⟩ := b
  rcases Int.lt_trichotomy a0 b0 with h | h | h
  · have HR := Aside0.mk (better_lt (a := ⟨a0, a1⟩) (b := ⟨b0, b1⟩) h)
    simp only
    go_enter Try.func49, Try.ntmps49
    go_wp2
    go_ret
    exact ⟨ret_bool HR.out.symm, rfl⟩
  · subst h
    have HR := Aside0.mk (better_eq (a := ⟨a0, a1⟩) (b := ⟨a0, b1⟩) rfl)
    simp only at HR ⊢
    go_enter Try.func49, Try.ntmps49
    go_wp2
    all_goals go_ret
    all_goals exact ⟨ret_bool (by rw [HR.out]), rfl⟩
  · have HR := Aside0.mk (better_gt (a := ⟨a0, a1⟩) (b := ⟨b0, b1⟩) h)
    have h2 : (a0 == b0) = false := by rw [beq_eq_false_iff_ne]; omega
    have h3 : decide (a0 < b0) = false := decide_eq_false (by omega)
    simp only
    clear h
    go_enter Try.func49, Try.ntmps49
    go_wp2
    go_ret
    exact ⟨ret_bool HR.out.symm, rfl⟩
set_option maxHeartbeats 400000 in
set_option maxRecDepth 100000 in
theorem cheap_any (a b : SBid) (w : World) :
    Calls Try.prog 18 #[.agg #[.int .i64 a.f0, .int .u32 a.f1], .agg #[.int .i64 b.f0, .int .u32 b.f1]] w fun e w' => e = .returned (.bool (better a b)) ∧ Below w.heap.size w w' := by
  have hu30 := Try.underlying30
  go_enter Try.func18, Try.ntmps18
  go_wp2_with (go_at_call 49; refine (refcheap_any a b _).mono ?_; rintro e w2 ⟨rfl, rfl⟩)
  go_ret
  exact ⟨rfl, ((Below.refl _ _).alloc (Nat.le_refl _) _).alloc (by simp) _⟩
set_option maxHeartbeats 400000 in
set_option maxRecDepth 100000 in
theorem first18_any (w : World) : Calls Try.prog 14 #[] w fun e w' => e = .returned (.bool true) ∧ Below w.heap.size w w' := by
  have hu30 := Try.underlying30
  have hrep : Reps (kBid.K (w.alloc (.cells #[.int .i64 5, .int .u32 0, .int .i64 4, .int .u32 0] 30 (0, 0)))) 2 [⟨5, 0⟩, ⟨4, 0⟩] [.int .i64 5, .int .u32 0, .int .i64 4, .int .u32 0] := reps_bid (reps_bid (reps_nil _) ⟨5, 0⟩) ⟨4, 0⟩
  have hC := C_of_block kBid (heap_alloc_new w (.cells #[.int .i64 5, .int .u32 0, .int .i64 4, .int .u32 0] 30 (0, 0))) hrep (by decide)
  have hB := best_any _ 2 2 [⟨5, 0⟩, ⟨4, 0⟩] _ hC (by omega)
  rw [show bestTo [⟨5, 0⟩, ⟨4, 0⟩] 2 = 1 from by decide] at hB
  have HB := Aside0.mk hB
  have hb1 : Below w.heap.size w (w.alloc (.cells #[.int .i64 5, .int .u32 0, .int .i64 4, .int .u32 0] 30 (0, 0))) := (Below.refl _ _).alloc (Nat.le_refl _) _
  have HBW := Aside0.mk hb1
  clear hB hC hrep hb1
  go_enter Try.func14, Try.ntmps14
  go_wp2_with fail
  refine HB.out.mono ?_
  rintro e w2 ⟨rfl, hb2⟩
  have hb02 := below_then HBW.out (by simp) hb2
  clear HB HBW hb2
  go_wp2_with fail
  refine (lost_any ⟨0, 0⟩ true none none 0 0 0 0 [] [] w2 (⟨rfl, by omega, fun h => absurd h (by omega)⟩) (by omega) rfl).mono ?_
  rintro e w3 ⟨rfl, hb3⟩
  have hb03 := below_then hb02 hb02.size hb3
  rw [show lostB ⟨0, 0⟩ true [] [] = false from rfl]
  go_wp2_with fail
  go_ret
  exact ⟨rfl, hb03⟩
end Go.Proofs.Ytjcihhkeehjgdaa
