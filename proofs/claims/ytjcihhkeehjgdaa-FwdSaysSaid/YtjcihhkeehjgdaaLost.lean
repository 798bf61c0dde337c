/- best.Lost: what it comes to at any bids; the closure that it hands to the library, and the library's two functions. -/
import Derived.Test.YtjcihhkeehjgdaaBest
namespace Go.Proofs.Ytjcihhkeehjgdaa
open Go.RowKit Go.Proofs.YtjcihhkeehjgdaaW.PrintWords
set_option linter.unusedVariables false
set_option linter.unusedSimpArgs false
set_option maxHeartbeats 400000 in
set_option maxRecDepth 100000 in
theorem lostfn_any (b own : SBid) (g : Nat) (w : World) (h0 : w.cell? ⟨g, 0, none⟩ = some (.int .i64 own.f0)) (h1 : w.cell? ⟨g, 1, none⟩ = some (.int .u32 own.f1)) (hg : g < w.heap.size) :
    Calls Try.prog 48 #[.agg #[.int .i64 b.f0, .int .u32 b.f1], .pointer (some ⟨g, 0, none⟩)] w fun e w' => e = .returned (.bool (better b own)) ∧ Below w.heap.size w w' := by
  have hu30 := Try.underlying30
  go_enter Try.func48, Try.ntmps48
  go_wp2_with (go_at_call 17; refine (better_any b own _).mono ?_; rintro e w2 ⟨rfl, hb2⟩)
  go_ret
  exact ⟨rfl, below_then ((Below.refl _ _).alloc (Nat.le_refl _) _) (by simp) hb2⟩
/-- The first of which it holds, or -1. -/
def IdxOf (l : List SBid) (own : SBid) (e : Ending) : Prop := ∃ r : Int, e = .returned (.int .i64 r) ∧ decide (0 ≤ r) = l.any (fun x => better x own)
theorem any_take_succ (l : List SBid) (own : SBid) (j : Nat) (hj : j < l.length) : (l.take (j + 1)).any (fun x => better x own) = ((l.take j).any (fun x => better x own) || better (l.getD j zBid) own) := by
  rw [List.take_succ_eq_append_getElem hj, List.any_append, List.getD_eq_getElem?_getD, List.getElem?_eq_getElem hj]
  simp
theorem any_of_at (l : List SBid) (own : SBid) (j : Nat) (hj : j < l.length) (h : better (l.getD j zBid) own = true) : l.any (fun x => better x own) = true := by
  rw [List.any_eq_true]
  refine ⟨l[j], List.getElem_mem hj, ?_⟩
  rwa [List.getD_eq_getElem?_getD, List.getElem?_eq_getElem hj] at h
set_option maxHeartbeats 400000 in
set_option maxRecDepth 100000 in
theorem index_any (A : Option Addr) (n c : Nat) (l : List SBid) (own : SBid) (g : Nat) (w : World) (hr : Kd.C kBid w A n l) (hl : n ≤ 1000000) (h0 : w.cell? ⟨g, 0, none⟩ = some (.int .i64 own.f0)) (h1 : w.cell? ⟨g, 1, none⟩ = some (.int .u32 own.f1)) (hg : g < w.heap.size) :
    Calls Try.prog 60 #[.slice A n c, .func (.func 48) #[] #[.pointer (some ⟨g, 0, none⟩)]] w fun e w' => IdxOf l own e ∧ Below w.heap.size w w' := by
  have hu30 := Try.underlying30
  have HR := Aside0.mk hr
  have HN := Aside0.mk hr.1
  clear hr
  go_enter Try.func60, Try.ntmps60
  go_wp2
  go_loopg [8] n (fun k i w' => ∃ j : Nat, j + k = n ∧ i = .int .i64 j ∧ Aside0 ((l.take j).any (fun x => better x own) = false) ∧ Below w.heap.size w w')
  case atStart => exact ⟨0, by omega, rfl, ⟨rfl⟩, Below.refl _ _⟩
  case round =>
    obtain ⟨j, hj, rfl, HF, hbel⟩ := hrel
    by_cases hlt : j < n
    · obtain ⟨ad, x, rfl, q0, q1, HX⟩ := bid_at (Kd.C_below HR.out hbel) j hlt
      have p0 := pw_cell_below hbel h0
      have p1 := pw_cell_below hbel h1
      have hs := hbel.size
      cases hbt : better x own with
      | true =>
        have HB := Aside0.mk hbt
        clear hbt
        go_wp2_with (go_at_call 48; refine (lostfn_any x own g _ p0 p1 (by omega)).mono ?_; rintro e w2 ⟨rfl, hb2⟩; rw [HB.out])
        go_ret
        exact ⟨⟨(j : Int), rfl, by rw [any_of_at l own j (by rw [HN.out]; exact hlt) (by rw [← HX.out]; exact HB.out)]; simp⟩, below_then hbel hs hb2⟩
      | false =>
        have HB := Aside0.mk hbt
        clear hbt
        go_wp2_with (go_at_call 48; refine (lostfn_any x own g _ p0 p1 (by omega)).mono ?_; rintro e w2 ⟨rfl, hb2⟩; rw [HB.out])
        go_roundg (gk - 1)
        case measure => omega
        case rel => exact ⟨j + 1, by omega, by go_num, ⟨by rw [any_take_succ l own j (by rw [HN.out]; exact hlt), HF.out, ← HX.out, HB.out]; rfl⟩, below_then hbel hs hb2⟩
    · obtain rfl : j = n := by omega
      go_wp2
      go_ret
      refine ⟨⟨-1, rfl, ?_⟩, hbel⟩
      have hf := HF.out
      rw [List.take_of_length_le (by rw [HN.out]; exact Nat.le_refl _)] at hf
      rw [hf]
      rfl
set_option maxHeartbeats 400000 in
set_option maxRecDepth 100000 in
theorem contains_any (A : Option Addr) (n c : Nat) (l : List SBid) (own : SBid) (g : Nat) (w : World) (hr : Kd.C kBid w A n l) (hl : n ≤ 1000000) (h0 : w.cell? ⟨g, 0, none⟩ = some (.int .i64 own.f0)) (h1 : w.cell? ⟨g, 1, none⟩ = some (.int .u32 own.f1)) (hg : g < w.heap.size) :
    Calls Try.prog 47 #[.slice A n c, .func (.func 48) #[] #[.pointer (some ⟨g, 0, none⟩)]] w fun e w' => e = .returned (.bool (l.any (fun x => better x own))) ∧ Below w.heap.size w w' := by
  go_enter Try.func47, Try.ntmps47
  go_wp2_with (go_at_call 60; refine (index_any A n c l own g w hr hl h0 h1 hg).mono ?_; rintro e w2 ⟨⟨r, rfl, hrr⟩, hb2⟩; have HR := Aside0.mk hrr; clear hrr)
  go_ret
  exact ⟨ret_bool HR.out, hb2⟩
/-- Is one's own lost? -/
def lostB (own : SBid) (exact_ : Bool) (same other : List SBid) : Bool := (!exact_ && decide (0 < other.length)) || same.any (fun x => better x own)
set_option maxHeartbeats 400000 in
set_option maxRecDepth 100000 in
theorem lost_any (own : SBid) (ex : Bool) (A0 A1 : Option Addr) (n0 n1 c0 c1 : Nat) (same other : List SBid) (w : World) (hr : Kd.C kBid w A0 n0 same) (hl : n0 ≤ 1000000) (ho : other.length = n1) :
    Calls Try.prog 16 #[.agg #[.int .i64 own.f0, .int .u32 own.f1], .bool ex, .slice A0 n0 c0, .slice A1 n1 c1] w fun e w' => e = .returned (.bool (lostB own ex same other)) ∧ Below w.heap.size w w' := by
  have hu30 := Try.underlying30
  by_cases hf : ex = false ∧ 0 < n1
  · obtain ⟨rfl, h2⟩ := hf
    have HL : Aside0 (lostB own false same other = true) := ⟨by simp [lostB, ho, h2]⟩
    have h3 : (0 : Int) < (n1 : Int) := by omega
    clear ho
    go_enter Try.func16, Try.ntmps16
    go_wp2
    go_ret
    exact ⟨ret_bool HL.out.symm, (Below.refl _ _).alloc (Nat.le_refl _) _⟩
  · have HL : Aside0 (lostB own ex same other = same.any (fun x => better x own)) := ⟨by
      unfold lostB
      cases ex with
      | true => simp
      | false =>
        have : ¬ 0 < n1 := fun h => hf ⟨rfl, h⟩
        rw [ho]
        simp [this]⟩
    have HB : Below w.heap.size w (w.alloc (.cells #[.int .i64 own.f0, .int .u32 own.f1] 30 (0, 0))) := (Below.refl _ _).alloc (Nat.le_refl _) _
    have hblk := heap_alloc_new w (.cells #[.int .i64 own.f0, .int .u32 own.f1] 30 (0, 0))
    have HC := Aside0.mk (contains_any A0 n0 c0 same own w.heap.size _ (Kd.C_below hr HB) hl ((blk_cell hblk 0).trans rfl) ((blk_cell hblk 1).trans rfl) (by simp))
    have HBB := Aside0.mk HB
    clear HB hblk hr
    cases ex with
    | true =>
      clear hf ho
      go_enter Try.func16, Try.ntmps16
      go_wp2_with (go_at_call 47; refine HC.out.mono ?_; rintro e w2 ⟨rfl, hb2⟩)
      go_ret
      exact ⟨ret_bool HL.out.symm, below_then HBB.out (by simp) hb2⟩
    | false =>
      have h2 : n1 = 0 := by
        rcases Nat.eq_zero_or_pos n1 with h | h
        · exact h
        · exact absurd ⟨rfl, h⟩ hf
      subst h2
      clear hf ho
      go_enter Try.func16, Try.ntmps16
      go_wp2_with (go_at_call 47; refine HC.out.mono ?_; rintro e w2 ⟨rfl, hb2⟩)
      go_ret
      exact ⟨ret_bool HL.out.symm, below_then HBB.out (by simp) hb2⟩
end Go.Proofs.Ytjcihhkeehjgdaa
