/- slices.Clone at []byte; queue.own: an item of its own. -/
import Derived.Test.YtjcihhkeehjgdaaBytesRef
import Derived.Laws.ResultCell
import Derived.WalkSpells
import Derived.BigRegion
import Derived.BigQuiet
import Derived.Lib.SliceRun
namespace Go.Proofs.Ytjcihhkeehjgdaa
open Go.RowKit Go.Proofs.YtjcihhkeehjgdaaW.PrintWords SumPlain
set_option linter.unusedVariables false
set_option linter.unusedSimpArgs false
theorem setCell_drewN (w : World) (n : Nat) (a : Addr) (v : Value) : (w.drewN n).setCell a v = (w.setCell a v).drewN n := rfl
theorem alloc_drewN (w : World) (n : Nat) (o : Obj) : (w.drewN n).alloc o = (w.alloc o).drewN n := rfl
attribute [local go_sem] setCell_drewN alloc_drewN
theorem reach_to {B : Nat} {a w w' : World} (h : Below B a w) (hB : B ≤ w.heap.size) (k : Below w.heap.size w w') : Below B a w' := below_then h hB k
theorem new_at (w : World) (o : Obj) (g : Nat) (hg : w.heap.size = g) : (w.alloc o).heap[g]? = some o := by subst hg; exact heap_alloc_new w o
theorem blk_alloc {w : World} {g : Nat} {o : Obj} (h : w.heap[g]? = some o) (o' : Obj) : (w.alloc o').heap[g]? = some o := blk_below h (below_alloc (Below.refl _ _) o')
set_option maxHeartbeats 400000 in
theorem clone_any (A : Option Addr) (n c : Nat) (l : List Int) (w : World) (hr : Kd.C (Kd.int .u8) w A n l) (hl : l.length ≤ 1000000) :
    Calls Try.prog 61 #[.slice A n c] w fun e w' => ∃ v, e = .returned v ∧ (Kd.int .u8).R 5 w' w.heap.size (fun _ => True) v l ∧ Below w.heap.size w w' := by
  obtain rfl := hr.1
  have he := fun (w : World) (a : Option Addr) (n : Nat) => Lib.run_eql_slice_nil (P := Try.prog) w 40 5 a n c 0 0 Try.underlying40
  cases A with
  | none =>
    have h0 : l = [] := by
      cases l with
      | nil => rfl
      | cons x r => obtain ⟨ad, e, _⟩ := hr.2.2 (by simp); cases e
    subst h0
    go_enter Try.func61, Try.ntmps61
    go_wp2
    go_ret
    exact ⟨_, rfl, Kd.R_nil _ _ _ _ _, Below.refl _ _⟩
  | some ad =>
    have hown := made0_R (Kd.int .u8) 5 w w.heap.size (.int .u8 0) 0 (fun _ => True) (Nat.le_refl _) (by omega) trivial
    rw [show madeCells (Value.int .u8 0).cells (0 * (Kd.int .u8).sz) = #[] from by simp [madeCells]] at hown
    have hbel : Below w.heap.size w (w.alloc (.cells #[] 5)) := (Below.refl _ _).alloc (Nat.le_refl _) _
    have hr1 := Kd.C_below hr hbel
    have HO := Aside0.mk hown
    have HB := Aside0.mk hbel
    have HR := Aside0.mk hr1
    clear hown hbel hr1
    go_enter Try.func61, Try.ntmps61
    go_wp2_with (at_builtin; refine Kd.R_append_row (w0 := w) (Value.int .u8) 0 w.heap.size rfl (.tmp 5) (.tmp 6) 40 5 (.int .u8 0) 1 rfl Try.underlying40 Try.infoB rfl (by decide) _ [] l (some ad) l.length c (fun _ => True) rfl rfl (fun _ _ => trivial) HO.out HR.out HB.out ?c5 ?c6 ?_)
    case c5 => simp
    case c6 => simp; omega
    intro v1 w1 hown1 hbel1 _ _
    go_wp2
    go_ret
    exact ⟨_, rfl, by exact hown1, hbel1⟩
set_option maxHeartbeats 2000000 in
set_option maxRecDepth 100000 in
theorem own_any (p : Int) (A : Option Addr) (n c : Nat) (l : List Int) (w : World) (hr : Kd.C (Kd.int .u8) w A n l) (hl : l.length ≤ 1000000) :
    Calls Try.prog 50 #[.agg #[.int .i64 p, .slice A n c]] w fun e w' => ∃ v, e = .returned (.agg #[.int .i64 p, v]) ∧ (Kd.int .u8).R 5 w' w.heap.size (fun _ => True) v l ∧ Below w.heap.size w w' := by
  have hu := Try.underlying42
  obtain ⟨W, hW⟩ : ∃ W, W = (w.alloc (.cells #[.int .i64 p, .slice A n c] 42)).alloc (.cells #[.int .i64 0, .slice none 0 0] 42) := ⟨_, rfl⟩
  have hbW : Below w.heap.size w W := by rw [hW]; exact below_alloc (below_alloc (Below.refl _ _) _) _
  have hx : W.heap[w.heap.size]? = some (.cells #[.int .i64 p, .slice A n c] 42 (0, 0)) := by rw [hW]; exact blk_alloc (heap_alloc_new w _) _
  have hz : W.heap[w.heap.size + 1]? = some (.cells #[.int .i64 0, .slice none 0 0] 42 (0, 0)) := by rw [hW]; exact new_at _ _ _ (by simp)
  have HC := Aside0.mk (And.intro (Kd.C_below hr hbW) hl)
  have HX := Aside0.mk hW
  have HS := Aside0.mk (And.intro hx (And.intro hz hbW))
  clear hW hr hl hx hz hbW
  go_enter Try.func50, Try.ntmps50
  go_wp2_with fail
  rw [← HX.out]
  obtain ⟨hx, hz, hbW⟩ := HS.out
  obtain ⟨g1, hg1⟩ : ∃ g1, g1 = w.heap.size := ⟨_, rfl⟩
  obtain ⟨g2, hg2⟩ : ∃ g2, g2 = w.heap.size + 1 := ⟨_, rfl⟩
  rw [← hg1] at hx ⊢
  rw [← hg2] at hz
  try rw [show g1 + 1 = g2 by omega]
  have hne : g1 ≠ g2 := by omega
  have HG := Aside0.mk (And.intro hbW.size (And.intro (show w.heap.size ≤ g2 by omega) hbW))
  have p0 := (blk_cell hx 0).trans rfl
  have p1 := (blk_cell hx 1).trans rfl
  clear hg1 hg2 hbW HX HS
  refine wp_region_held_drew (S := (fun w' => w'.cell? ⟨g1, 0, none⟩ = some (.int .i64 p) ∧ w'.cell? ⟨g1, 1, none⟩ = some (.slice A n c))) (by kernel_rfl) ?_ (fun hHeld => ?_)
  · (refine ⟨?_, ?_⟩ <;> first | assumption | exact p0 | exact p1 | exact s0' | exact s1')
  refine wpAnyH_take (i := 0) (v := ?_) rfl (by kernel_rfl) (by kernel_rfl) (by kernel_rfl) (fun _ _ _ h => h) (Or.inl ⟨by rfl, ?_⟩) (by assumption) ?_
  rotate_left 1
  · intro w hSw; (try dsimp only at hSw); go_simp; try with_reducible rfl
  try simp only [Act.put, List.getElem_toArray, List.getElem_cons_zero, List.getElem_cons_succ, List.setIfInBounds_toArray, List.set_cons_zero, List.set_cons_succ]
  refine wpAnyH_take (i := 1) (v := ?_) rfl (by kernel_rfl) (by kernel_rfl) (by kernel_rfl) (fun _ _ _ h => h) (Or.inl ⟨by rfl, ?_⟩) (by assumption) ?_
  rotate_left 1
  · intro w hSw; (try dsimp only at hSw); go_simp; try with_reducible rfl
  try simp only [Act.put, List.getElem_toArray, List.getElem_cons_zero, List.getElem_cons_succ, List.setIfInBounds_toArray, List.set_cons_zero, List.set_cons_succ]
  refine wpAnyH_take (i := 2) (v := ?_) rfl (by kernel_rfl) (by kernel_rfl) (by kernel_rfl) (fun _ _ _ h => h) (Or.inl ⟨by rfl, ?_⟩) (by assumption) ?_
  rotate_left 1
  · intro w hSw; (try dsimp only at hSw); go_simp; try with_reducible rfl
  try simp only [Act.put, List.getElem_toArray, List.getElem_cons_zero, List.getElem_cons_succ, List.setIfInBounds_toArray, List.set_cons_zero, List.set_cons_succ]
  refine wpAnyH_take (i := 3) (v := ?_) rfl (by kernel_rfl) (by kernel_rfl) (by kernel_rfl) (fun _ _ _ h => h) (Or.inl ⟨by rfl, ?_⟩) (by assumption) ?_
  rotate_left 1
  · intro w hSw; (try dsimp only at hSw); go_simp; try with_reducible rfl
  try simp only [Act.put, List.getElem_toArray, List.getElem_cons_zero, List.getElem_cons_succ, List.setIfInBounds_toArray, List.set_cons_zero, List.set_cons_succ]
  refine wpAnyH_ready (rs := [4]) (by kernel_rfl) (by simp) ?_
  refine AllReadyH.cons rfl (fun K hK => ?_) ?_
  · go_simp
    refine (clone_any A n c l _ (Kd.C_drew HC.out.1) HC.out.2).mono ?_
    rintro e wb ⟨v, rfl, hR, hb⟩
    have hkb : Below W.heap.size W wb := reach_to (below_drew (Below.refl _ _)) (Nat.le_refl _) hb
    have hx1 := blk_below hx hkb
    have hz1 := blk_below hz hkb
    have s0 := (blk_cell hx1 0).trans rfl
    have s1 := (blk_cell hx1 1).trans rfl
    have z0 := (blk_cell hz1 0).trans rfl
    have z1 := (blk_cell hz1 1).trans rfl
    have fz := blk_frozen hz1
    obtain ⟨A1, c1, rfl⟩ := Kd.R_slice hR
    generalize hN1 : l.length = n1 at *
    have HR := Aside0.mk (And.intro hR (And.intro hkb (And.intro hx1 hz1)))
    clear hR hb hx1 hz1 hkb
    refine hK.out _ _ ?_ (fun hHeld => ?_)
    · (refine ⟨?_, ?_⟩ <;> first | assumption | exact p0 | exact p1 | exact s0' | exact s1')
    clear hK K
    try simp only [Act.put, List.getElem_toArray, List.getElem_cons_zero, List.getElem_cons_succ, List.setIfInBounds_toArray, List.set_cons_zero, List.set_cons_succ]
    refine wpAnyH_take (i := 5) (v := ?_) rfl (by kernel_rfl) (by kernel_rfl) (by kernel_rfl) (fun _ _ _ h => h) (Or.inl ⟨by rfl, ?_⟩) (by assumption) ?_
    rotate_left 1
    · intro w hSw; (try dsimp only at hSw); go_simp; try with_reducible rfl
    try simp only [Act.put, List.getElem_toArray, List.getElem_cons_zero, List.getElem_cons_succ, List.setIfInBounds_toArray, List.set_cons_zero, List.set_cons_succ]
    refine wpAnyH_ready (rs := [6]) (by kernel_rfl) (by simp) ?_
    refine AllReadyH.cons rfl (fun K hK => ?_) ?_
    · go_simp
      have s0' := (blk_cell (blk_far (blk_far HR.out.2.2.1 (p := ⟨g2, 0, none⟩) hne (.int .i64 p)) (p := ⟨g2, 1, none⟩) hne (.slice A1 n1 c1)) 0).trans rfl
      have s1' := (blk_cell (blk_far (blk_far HR.out.2.2.1 (p := ⟨g2, 0, none⟩) hne (.int .i64 p)) (p := ⟨g2, 1, none⟩) hne (.slice A1 n1 c1)) 1).trans rfl
      refine hK.out _ _ ?_ (fun hHeld => ?_)
      · (refine ⟨?_, ?_⟩ <;> first | assumption | exact p0 | exact p1 | exact s0' | exact s1')
      clear hK K
      try simp only [Act.put, List.getElem_toArray, List.getElem_cons_zero, List.getElem_cons_succ, List.setIfInBounds_toArray, List.set_cons_zero, List.set_cons_succ]
      refine wpAnyH_done (by kernel_rfl) ?_ _
      clear hHeld s0' s1'
      go_wp2
      obtain ⟨hR, hkb, hx1, hz1⟩ := HR.out
      have hz3 : ((wb.setCell ⟨g2, 0, none⟩ (.int .i64 p)).setCell ⟨g2, 1, none⟩ (.slice A1 n1 c1)).heap[g2]? = some (.cells #[.int .i64 p, .slice A1 n1 c1] 42 (0, 0)) := (blk_set (blk_set hz1 0 _) 1 _).trans rfl
      refine bodyPost_ret (results_single rfl (.cell g2 42 #[.int .i64 p, .slice A1 n1 c1] (0, 0) _ rfl hz3 hu rfl (by kernel_rfl) .nil)) rfl ?_
      refine ⟨_, rfl, ?_, ?_⟩
      · exact Kd.R_lower (Kd.R_set (Kd.R_set hR hz1 (by decide) 0 _) (blk_set hz1 0 _) (by decide) 1 _) HG.out.1
      · exact Below.setCell (Below.setCell (HG.out.2.2.trans ⟨hkb.os, hkb.tape, hkb.output, hkb.size, fun i hi => hkb.block i (Nat.lt_of_lt_of_le hi HG.out.1)⟩) HG.out.2.1 _) HG.out.2.1 _
    · exact AllReadyH.nil
  · exact AllReadyH.nil
end Go.Proofs.Ytjcihhkeehjgdaa
