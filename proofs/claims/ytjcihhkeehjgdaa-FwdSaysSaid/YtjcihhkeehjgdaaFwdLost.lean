/- Chapter 19: lost ports: slices.Index, slices.Contains at []fwd.Lost; the closure of fwd.Do. -/
import Derived.Test.YtjcihhkeehjgdaaPFwdSaysx
import Derived.Test.YtjcihhkeehjgdaaOwn
namespace Go.Proofs.Ytjcihhkeehjgdaa
open Go.RowKit Go.Proofs.YtjcihhkeehjgdaaW.PrintWords Ytjcihhkeehjgdaa.PFwdSays
set_option linter.unusedVariables false
set_option linter.unusedSimpArgs false
theorem eqA82 (d : Nat) (w : World) (x0 y0 x1 y1 x2 y2 : Int) :
    (Op.equalIn (d + 3) 82 (.agg #[.int .i64 x0, .int .u32 x1, .int .u32 x2]) (.agg #[.int .i64 y0, .int .u32 y1, .int .u32 y2])).run Try.prog w = .ok (x0 == y0 && (x1 == y1 && (x2 == y2))) w := by
  refine eqA_of Try.underlying82 (by kernel_rfl) ?_
  refine eqf_cons (by rfl) (by first | (go_simp; done) | (go_simp; rfl)) (by first | (go_simp; done) | (go_simp; rfl)) (by go_simp) ?_
  exact eqf_last (by rfl) (by first | (go_simp; done) | (go_simp; rfl)) (by first | (go_simp; done) | (go_simp; rfl)) (eqA69 d w _ _ _ _)
attribute [local go_sem high] eqA69 eqA82
def lostEq (y : S82) (q s g : Int) : Bool := q == y.f0 && (s == y.f1.f0 && (g == y.f1.f1))
def lostIn (l : List S82) (q s g : Int) : Bool := l.any fun y => lostEq y q s g
theorem lost82_at {w : World} {A : Option Addr} {n : Nat} {xs : List S82} (h : Kd.C k82 w A n xs) (j : Nat) (hj : j < n) : ∃ ad x, A = some ad ∧ w.cell? (ad.add (j * 3)) = some (.int .i64 x.f0) ∧ w.cell? ⟨(ad.add (j * 3)).block, (ad.add (j * 3)).off + 1, none⟩ = some (.int .u32 x.f1.f0) ∧ w.cell? ⟨(ad.add (j * 3)).block, (ad.add (j * 3)).off + 2, none⟩ = some (.int .u32 x.f1.f1) ∧ Aside0 (x = xs.getD j z82) := by
  obtain ⟨ad, e, h0, h1, h2⟩ := at_T82 h (j : Int) (by omega) (by omega)
  rw [Int.toNat_natCast] at h0 h1 h2
  exact ⟨ad, _, e, h0, h1, h2, ⟨by simp [rd_T82]⟩⟩
theorem any_take_at {α : Type} (z : α) (l : List α) (p : α → Bool) (j : Nat) (hj : j < l.length) : (l.take (j + 1)).any p = ((l.take j).any p || p (l.getD j z)) := by
  rw [List.take_succ_eq_append_getElem hj, List.any_append, List.getD_eq_getElem?_getD, List.getElem?_eq_getElem hj]
  simp
theorem any_at {α : Type} (z : α) (l : List α) (p : α → Bool) (j : Nat) (hj : j < l.length) (h : p (l.getD j z) = true) : l.any p = true := by
  rw [List.any_eq_true]
  refine ⟨l[j], List.getElem_mem hj, ?_⟩
  rwa [List.getD_eq_getElem?_getD, List.getElem?_eq_getElem hj] at h
set_option maxHeartbeats 1000000 in
set_option maxRecDepth 100000 in
theorem indexLost_any (A : Option Addr) (n c : Nat) (l : List S82) (q s g : Int) (w : World) (hr : Kd.C k82 w A n l) :
    Calls Try.prog 63 #[.slice A n c, .agg #[.int .i64 q, .int .u32 s, .int .u32 g]] w fun e w' => ∃ r : Int, e = .returned (.int .i64 r) ∧ decide (0 ≤ r) = lostIn l q s g ∧ Below w.heap.size w w' := by
  have hu82 := Try.underlying82
  have hu69 := Try.underlying69
  have hb1 : Below w.heap.size w (w.alloc (.cells #[.int .i64 q, .int .u32 s, .int .u32 g] 82 (0, 0))) := (Below.refl _ _).alloc (Nat.le_refl _) _
  have hblk : (w.alloc (.cells #[.int .i64 q, .int .u32 s, .int .u32 g] 82 (0, 0))).heap[w.heap.size]? = some (.cells #[.int .i64 q, .int .u32 s, .int .u32 g] 82 (0, 0)) := heap_alloc_new w _
  have hCW := Kd.C_below hr hb1
  have hsz : w.heap.size < (w.alloc (.cells #[.int .i64 q, .int .u32 s, .int .u32 g] 82 (0, 0))).heap.size := by simp
  have HN := Aside0.mk hr.1
  have hmx : n ≤ 9223372036854775807 := by have := hr.2.1; omega
  clear hr
  go_enter Try.func63, Try.ntmps63
  go_wp2_with fail
  generalize w.alloc (.cells #[.int .i64 q, .int .u32 s, .int .u32 g] 82 (0, 0)) = W at *
  generalize hbw : w.heap.size = b at *
  have HW := Aside0.mk hbw
  clear hbw
  have q0 : W.cell? ⟨b, 0, none⟩ = some (.int .i64 q) := (blk_cell hblk 0).trans rfl
  have q1 : W.cell? ⟨b, 1, none⟩ = some (.int .u32 s) := (blk_cell hblk 1).trans rfl
  have q2 : W.cell? ⟨b, 2, none⟩ = some (.int .u32 g) := (blk_cell hblk 2).trans rfl
  have HC := Aside0.mk hCW
  have HB1 := Aside0.mk hb1
  clear hblk hCW hb1
  go_loopg [8] n (fun k i w' => ∃ j : Nat, j + k = n ∧ i = .int .i64 j ∧ Aside0 ((l.take j).any (fun y => lostEq y q s g) = false) ∧ Below W.heap.size W w')
  case atStart => exact ⟨0, by omega, rfl, ⟨rfl⟩, Below.refl _ _⟩
  case round =>
    obtain ⟨j, hj, rfl, HF, hbel⟩ := hrel
    by_cases hlt : j < n
    · obtain ⟨ad, y, rfl, h0, h1, h2, HX⟩ := lost82_at (Kd.C_below HC.out hbel) j hlt
      have p0 := pw_cell_below hbel q0
      have p1 := pw_cell_below hbel q1
      have p2 := pw_cell_below hbel q2
      have hs := hbel.size
      cases hbt : lostEq y q s g with
      | true =>
        have HB := Aside0.mk hbt
        unfold lostEq at hbt
        go_wp2
        go_quiet (fail)
        go_wp2
        go_ret
        exact ⟨(j : Int), rfl, by unfold lostIn; rw [any_at z82 l _ j (by rw [HN.out]; exact hlt) (by rw [← HX.out]; exact HB.out)]; simp, by rw [HW.out]; exact below_then HB1.out (by omega) (pw_below_drewN hbel _)⟩
      | false =>
        have HB := Aside0.mk hbt
        unfold lostEq at hbt
        go_wp2
        go_quiet (fail)
        go_wp2
        go_roundg (gk - 1)
        case measure => omega
        case rel => exact ⟨j + 1, by omega, by go_num, ⟨by rw [any_take_at z82 l _ j (by rw [HN.out]; exact hlt), HF.out, ← HX.out, HB.out]; rfl⟩, pw_below_drewN hbel _⟩
    · obtain rfl : j = n := by omega
      go_wp2
      go_ret
      refine ⟨-1, rfl, ?_, by rw [HW.out]; exact below_then HB1.out (by omega) hbel⟩
      have hf := HF.out
      rw [List.take_of_length_le (by rw [HN.out]; exact Nat.le_refl _)] at hf
      unfold lostIn
      rw [hf]
      rfl
set_option maxHeartbeats 400000 in
set_option maxRecDepth 100000 in
theorem containsLost_any (A : Option Addr) (n c : Nat) (l : List S82) (q s g : Int) (w : World) (hr : Kd.C k82 w A n l) :
    Calls Try.prog 55 #[.slice A n c, .agg #[.int .i64 q, .int .u32 s, .int .u32 g]] w fun e w' => e = .returned (.bool (lostIn l q s g)) ∧ Below w.heap.size w w' := by
  have hu82 := Try.underlying82
  have hu69 := Try.underlying69
  have hb1 : Below w.heap.size w (w.alloc (.cells #[.int .i64 q, .int .u32 s, .int .u32 g] 82 (0, 0))) := (Below.refl _ _).alloc (Nat.le_refl _) _
  have hCW := Kd.C_below hr hb1
  clear hr
  go_enter Try.func55, Try.ntmps55
  go_wp2_with (go_at_call 63; refine (indexLost_any A n c l q s g _ hCW).mono ?_; rintro e w2 ⟨r, rfl, hrr, hb2⟩; have HR := Aside0.mk hrr; clear hrr)
  go_ret
  exact ⟨ret_bool HR.out, below_then hb1 (by simp) hb2⟩
/-- Is a port left out? -/
def leftOut (l : List S82) (port s g q : Int) : Bool := q == port || lostIn l q s g
set_option maxHeartbeats 1000000 in
set_option maxRecDepth 100000 in
theorem fwdfn_any (A : Option Addr) (n c : Nat) (l : List S82) (port s g q : Int) (bp bl : Nat) (w : World) (hr : Kd.C k82 w A n l)
    (p0 : w.cell? ⟨bp, 0, none⟩ = some (.int .u32 s)) (p1 : w.cell? ⟨bp, 1, none⟩ = some (.int .u32 g)) (p2 : w.cell? ⟨bp, 2, none⟩ = some (.int .i64 port)) (l0 : w.cell? ⟨bl, 0, none⟩ = some (.slice A n c)) :
    Calls Try.prog 54 #[.int .i64 q, .pointer (some ⟨bp, 0, none⟩), .pointer (some ⟨bl, 0, none⟩)] w fun e w' => e = .returned (.bool (leftOut l port s g q)) ∧ Below w.heap.size w w' := by
  have hu82 := Try.underlying82
  have hu69 := Try.underlying69
  have hu71 := Try.underlying71
  by_cases hq : q = port
  · have h1 : (q == port) = true := beq_iff_eq.2 hq
    have HL : Aside0 (leftOut l port s g q = true) := ⟨by unfold leftOut; rw [h1]; rfl⟩
    go_enter Try.func54, Try.ntmps54
    go_wp2
    go_ret
    exact ⟨ret_bool HL.out.symm, Below.refl _ _⟩
  · have h1 : (q == port) = false := beq_eq_false_iff_ne.2 hq
    have HL : Aside0 (leftOut l port s g q = lostIn l q s g) := ⟨by unfold leftOut; rw [h1]; rfl⟩
    go_enter Try.func54, Try.ntmps54
    go_wp2_with (go_at_call 55; refine (containsLost_any A n c l q s g _ hr).mono ?_; rintro e w2 ⟨rfl, hb2⟩)
    go_ret
    exact ⟨ret_bool HL.out.symm, hb2⟩
end Go.Proofs.Ytjcihhkeehjgdaa
