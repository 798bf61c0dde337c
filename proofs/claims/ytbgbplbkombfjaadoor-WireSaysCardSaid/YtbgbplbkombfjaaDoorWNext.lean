/- wire.reader: next. -/
import Derived.Test.YtbgbplbkombfjaaDoorWFirst
namespace Go.Proofs.YtbgbplbkombfjaaDoor
open Go.RowKit Go.Proofs.YtbgbplbkombfjaaDoorW.PrintWords SumPlain
set_option linter.unusedVariables false
set_option linter.unusedSimpArgs false
attribute [local go_sem] setCell_drewN alloc_drewN
/-- All but one block stays. -/
def Fr (r : Nat) (w w' : World) : Prop := w.heap.size ≤ w'.heap.size ∧ ∀ g, g < w.heap.size → g ≠ r → w'.heap[g]? = w.heap[g]?
theorem Fr.refl (r : Nat) (w : World) : Fr r w w := ⟨Nat.le_refl _, fun _ _ _ => rfl⟩
theorem Fr.trans {r : Nat} {w w1 w2 : World} (h : Fr r w w1) (k : Fr r w1 w2) : Fr r w w2 := ⟨Nat.le_trans h.1 k.1, fun g hg hn => (k.2 g (Nat.lt_of_lt_of_le hg h.1) hn).trans (h.2 g hg hn)⟩
theorem Fr.below {r : Nat} {w w' : World} (h : Below w.heap.size w w') : Fr r w w' :=
  ⟨h.size, fun g hg _ => by rw [Array.getElem?_eq_getElem hg]; exact blk_below (Array.getElem?_eq_getElem hg) h⟩
theorem Fr.set {r : Nat} {w w' : World} (h : Fr r w w') (i : Nat) (u : Value) : Fr r w (w'.setCell ⟨r, i, none⟩ u) :=
  ⟨by simpa [World.setCell] using h.1, fun g hg hn => (Below.heap_setCell w' ⟨r, i, none⟩ u g hn).trans (h.2 g hg hn)⟩
theorem Fr.blk {r g : Nat} {w w' : World} {o : Obj} (h : Fr r w w') (hn : g ≠ r) (hg : w.heap[g]? = some o) : w'.heap[g]? = some o :=
  (h.2 g (Array.getElem?_eq_some_iff.1 hg).1 hn).trans hg
/-- A reader: the bytes left, and whether it came to the end. -/
structure RS (w0 w : World) (r : Nat) (s : List Int × Bool) : Prop where
  ex : ∃ A n c, w.heap[r]? = some (.cells #[.slice A n c, .bool s.2] 94 (0, 0)) ∧ n ≤ c ∧ Kd.C (Kd.int .u8) w0 A n s.1
  bel : Below w0.heap.size w0 w
  hr : w0.heap.size ≤ r
def nx (k : Nat) (s : List Int × Bool) : List Int × (List Int × Bool) := if s.1.length < k then (List.replicate k 0, s.1, true) else (s.1.take k, s.1.drop k, s.2)
theorem mk_1 (W : World) : (Instr.makeSlice 26 (.int .i64 1) (.int .i64 1)).run Tryd.prog W = .ok (.slice (some ⟨W.heap.size, 0, none⟩) 1 1) (W.alloc (.cells (nums .u8 (List.replicate 1 0)).toArray 5)) := by
  obtain ⟨i, hi, hz0, hz1, hz2⟩ := info_parts Tryd.infoB
  have hr := run_make (P := Tryd.prog) W 26 5 i (.int .u8 0) Tryd.underlying26 hi hz0 .i64 .i64 1 1 (by omega) (by omega) (by rw [hz2]; decide) (by omega)
  rw [hz1] at hr
  have e : madeCells (Value.int .u8 0).cells (Int.toNat 1 * 1) = (nums .u8 (List.replicate 1 0)).toArray := by kernel_rfl
  rw [e] at hr
  exact hr
set_option maxHeartbeats 1000000 in
set_option maxRecDepth 100000 in
theorem next1 (w0 w : World) (r : Nat) (s : List Int × Bool) (h : RS w0 w r s) :
    Calls Tryd.prog 66 #[.pointer (some ⟨r, 0, none⟩), .int .i64 1] w fun e w' => ∃ A c, e = .returned (.slice A 1 c) ∧ 1 ≤ c ∧ Kd.C (Kd.int .u8) w' A 1 (nx 1 s).1 ∧ RS w0 w' r (nx 1 s).2 ∧ Fr r w w' := by
  have hu := Tryd.underlying94
  obtain ⟨l, bad⟩ := s
  obtain ⟨⟨A, n, c, hr, hle, hC⟩, hb, hlt⟩ := h
  simp only at hr hC
  have q0 := (blk_cell hr 0).trans rfl
  have q1 := (blk_cell hr 1).trans rfl
  have f0 := blk_frozen hr
  have hsz : r < w.heap.size := World.block_lt_of_cell? w _ q0
  have hln : l.length = n := hC.1
  have hmx := Kd.C_max hC
  have hmk := mk_1
  by_cases hk : n < 1
  · have HQ := Aside0.mk (And.intro hr (And.intro hle (And.intro hC (And.intro hb (And.intro hlt hln)))))
    clear hr hle hC hb hlt hln
    go_enter Tryd.func66, Tryd.ntmps66
    go_wp2
    go_ret
    obtain ⟨hr, hle, hC, hb, hlt, hln⟩ := HQ.out
    refine ⟨_, _, rfl, by omega, ?_, ⟨⟨A, n, c, ?_, hle, ?_⟩, ?_, hlt⟩, ?_⟩
    · rw [nx, if_pos (by rw [hln]; exact hk)]
      exact blk_C .u8 (List.replicate 1 0) (by simp) (new_at _ _ _ (by simp [World.setCell]))
    · rw [nx, if_pos (by rw [hln]; exact hk)]
      exact blk_alloc ((blk_set hr 1 _).trans rfl) _
    · rw [nx, if_pos (by rw [hln]; exact hk)]
      exact hC
    · exact below_alloc (Below.setCell hb hlt _) _
    · exact ((Fr.refl r w).set 1 _).trans (Fr.below (below_alloc (Below.refl _ _) _))
  · have ht := cut_to 26 5 .i64 Tryd.underlying26 Tryd.infoB A n c 1 1 rfl (by omega)
    obtain ⟨A2, n2, c2, hle2, hd, hC2⟩ := drop_ex 26 5 .i64 Tryd.underlying26 Tryd.infoB hC hle 1 (by omega) (by omega)
    have HQ := Aside0.mk (And.intro hr (And.intro hle (And.intro hC (And.intro hb (And.intro hlt (And.intro hln (And.intro hle2 hC2)))))))
    clear hr hle hC hb hlt hln hle2 hC2
    go_enter Tryd.func66, Tryd.ntmps66
    go_wp2
    go_ret
    obtain ⟨hr, hle, hC, hb, hlt, hln, hle2, hC2⟩ := HQ.out
    have hB1 : Below w0.heap.size w0 (w.setCell ⟨r, 0, none⟩ (.slice A2 n2 c2)) := Below.setCell hb hlt _
    refine ⟨A, c, rfl, by omega, ?_, ⟨⟨A2, n2, c2, ?_, hle2, ?_⟩, ?_, hlt⟩, ?_⟩
    · rw [nx, if_neg (by rw [hln]; exact hk)]
      exact Kd.C_below (C_take' hC (by omega)) hB1
    · rw [nx, if_neg (by rw [hln]; exact hk)]
      exact (blk_set hr 0 _).trans rfl
    · rw [nx, if_neg (by rw [hln]; exact hk)]
      exact hC2
    · exact hB1
    · exact (Fr.refl r w).set 0 _
theorem mk_2 (W : World) : (Instr.makeSlice 26 (.int .i64 2) (.int .i64 2)).run Tryd.prog W = .ok (.slice (some ⟨W.heap.size, 0, none⟩) 2 2) (W.alloc (.cells (nums .u8 (List.replicate 2 0)).toArray 5)) := by
  obtain ⟨i, hi, hz0, hz1, hz2⟩ := info_parts Tryd.infoB
  have hr := run_make (P := Tryd.prog) W 26 5 i (.int .u8 0) Tryd.underlying26 hi hz0 .i64 .i64 2 2 (by omega) (by omega) (by rw [hz2]; decide) (by omega)
  rw [hz1] at hr
  have e : madeCells (Value.int .u8 0).cells (Int.toNat 2 * 1) = (nums .u8 (List.replicate 2 0)).toArray := by kernel_rfl
  rw [e] at hr
  exact hr
set_option maxHeartbeats 1000000 in
set_option maxRecDepth 100000 in
theorem next2 (w0 w : World) (r : Nat) (s : List Int × Bool) (h : RS w0 w r s) :
    Calls Tryd.prog 66 #[.pointer (some ⟨r, 0, none⟩), .int .i64 2] w fun e w' => ∃ A c, e = .returned (.slice A 2 c) ∧ 2 ≤ c ∧ Kd.C (Kd.int .u8) w' A 2 (nx 2 s).1 ∧ RS w0 w' r (nx 2 s).2 ∧ Fr r w w' := by
  have hu := Tryd.underlying94
  obtain ⟨l, bad⟩ := s
  obtain ⟨⟨A, n, c, hr, hle, hC⟩, hb, hlt⟩ := h
  simp only at hr hC
  have q0 := (blk_cell hr 0).trans rfl
  have q1 := (blk_cell hr 1).trans rfl
  have f0 := blk_frozen hr
  have hsz : r < w.heap.size := World.block_lt_of_cell? w _ q0
  have hln : l.length = n := hC.1
  have hmx := Kd.C_max hC
  have hmk := mk_2
  by_cases hk : n < 2
  · have HQ := Aside0.mk (And.intro hr (And.intro hle (And.intro hC (And.intro hb (And.intro hlt hln)))))
    clear hr hle hC hb hlt hln
    go_enter Tryd.func66, Tryd.ntmps66
    go_wp2
    go_ret
    obtain ⟨hr, hle, hC, hb, hlt, hln⟩ := HQ.out
    refine ⟨_, _, rfl, by omega, ?_, ⟨⟨A, n, c, ?_, hle, ?_⟩, ?_, hlt⟩, ?_⟩
    · rw [nx, if_pos (by rw [hln]; exact hk)]
      exact blk_C .u8 (List.replicate 2 0) (by simp) (new_at _ _ _ (by simp [World.setCell]))
    · rw [nx, if_pos (by rw [hln]; exact hk)]
      exact blk_alloc ((blk_set hr 1 _).trans rfl) _
    · rw [nx, if_pos (by rw [hln]; exact hk)]
      exact hC
    · exact below_alloc (Below.setCell hb hlt _) _
    · exact ((Fr.refl r w).set 1 _).trans (Fr.below (below_alloc (Below.refl _ _) _))
  · have ht := cut_to 26 5 .i64 Tryd.underlying26 Tryd.infoB A n c 2 2 rfl (by omega)
    obtain ⟨A2, n2, c2, hle2, hd, hC2⟩ := drop_ex 26 5 .i64 Tryd.underlying26 Tryd.infoB hC hle 2 (by omega) (by omega)
    have HQ := Aside0.mk (And.intro hr (And.intro hle (And.intro hC (And.intro hb (And.intro hlt (And.intro hln (And.intro hle2 hC2)))))))
    clear hr hle hC hb hlt hln hle2 hC2
    go_enter Tryd.func66, Tryd.ntmps66
    go_wp2
    go_ret
    obtain ⟨hr, hle, hC, hb, hlt, hln, hle2, hC2⟩ := HQ.out
    have hB1 : Below w0.heap.size w0 (w.setCell ⟨r, 0, none⟩ (.slice A2 n2 c2)) := Below.setCell hb hlt _
    refine ⟨A, c, rfl, by omega, ?_, ⟨⟨A2, n2, c2, ?_, hle2, ?_⟩, ?_, hlt⟩, ?_⟩
    · rw [nx, if_neg (by rw [hln]; exact hk)]
      exact Kd.C_below (C_take' hC (by omega)) hB1
    · rw [nx, if_neg (by rw [hln]; exact hk)]
      exact (blk_set hr 0 _).trans rfl
    · rw [nx, if_neg (by rw [hln]; exact hk)]
      exact hC2
    · exact hB1
    · exact (Fr.refl r w).set 0 _
theorem mk_4 (W : World) : (Instr.makeSlice 26 (.int .i64 4) (.int .i64 4)).run Tryd.prog W = .ok (.slice (some ⟨W.heap.size, 0, none⟩) 4 4) (W.alloc (.cells (nums .u8 (List.replicate 4 0)).toArray 5)) := by
  obtain ⟨i, hi, hz0, hz1, hz2⟩ := info_parts Tryd.infoB
  have hr := run_make (P := Tryd.prog) W 26 5 i (.int .u8 0) Tryd.underlying26 hi hz0 .i64 .i64 4 4 (by omega) (by omega) (by rw [hz2]; decide) (by omega)
  rw [hz1] at hr
  have e : madeCells (Value.int .u8 0).cells (Int.toNat 4 * 1) = (nums .u8 (List.replicate 4 0)).toArray := by kernel_rfl
  rw [e] at hr
  exact hr
set_option maxHeartbeats 1000000 in
set_option maxRecDepth 100000 in
theorem next4 (w0 w : World) (r : Nat) (s : List Int × Bool) (h : RS w0 w r s) :
    Calls Tryd.prog 66 #[.pointer (some ⟨r, 0, none⟩), .int .i64 4] w fun e w' => ∃ A c, e = .returned (.slice A 4 c) ∧ 4 ≤ c ∧ Kd.C (Kd.int .u8) w' A 4 (nx 4 s).1 ∧ RS w0 w' r (nx 4 s).2 ∧ Fr r w w' := by
  have hu := Tryd.underlying94
  obtain ⟨l, bad⟩ := s
  obtain ⟨⟨A, n, c, hr, hle, hC⟩, hb, hlt⟩ := h
  simp only at hr hC
  have q0 := (blk_cell hr 0).trans rfl
  have q1 := (blk_cell hr 1).trans rfl
  have f0 := blk_frozen hr
  have hsz : r < w.heap.size := World.block_lt_of_cell? w _ q0
  have hln : l.length = n := hC.1
  have hmx := Kd.C_max hC
  have hmk := mk_4
  by_cases hk : n < 4
  · have HQ := Aside0.mk (And.intro hr (And.intro hle (And.intro hC (And.intro hb (And.intro hlt hln)))))
    clear hr hle hC hb hlt hln
    go_enter Tryd.func66, Tryd.ntmps66
    go_wp2
    go_ret
    obtain ⟨hr, hle, hC, hb, hlt, hln⟩ := HQ.out
    refine ⟨_, _, rfl, by omega, ?_, ⟨⟨A, n, c, ?_, hle, ?_⟩, ?_, hlt⟩, ?_⟩
    · rw [nx, if_pos (by rw [hln]; exact hk)]
      exact blk_C .u8 (List.replicate 4 0) (by simp) (new_at _ _ _ (by simp [World.setCell]))
    · rw [nx, if_pos (by rw [hln]; exact hk)]
      exact blk_alloc ((blk_set hr 1 _).trans rfl) _
    · rw [nx, if_pos (by rw [hln]; exact hk)]
      exact hC
    · exact below_alloc (Below.setCell hb hlt _) _
    · exact ((Fr.refl r w).set 1 _).trans (Fr.below (below_alloc (Below.refl _ _) _))
  · have ht := cut_to 26 5 .i64 Tryd.underlying26 Tryd.infoB A n c 4 4 rfl (by omega)
    obtain ⟨A2, n2, c2, hle2, hd, hC2⟩ := drop_ex 26 5 .i64 Tryd.underlying26 Tryd.infoB hC hle 4 (by omega) (by omega)
    have HQ := Aside0.mk (And.intro hr (And.intro hle (And.intro hC (And.intro hb (And.intro hlt (And.intro hln (And.intro hle2 hC2)))))))
    clear hr hle hC hb hlt hln hle2 hC2
    go_enter Tryd.func66, Tryd.ntmps66
    go_wp2
    go_ret
    obtain ⟨hr, hle, hC, hb, hlt, hln, hle2, hC2⟩ := HQ.out
    have hB1 : Below w0.heap.size w0 (w.setCell ⟨r, 0, none⟩ (.slice A2 n2 c2)) := Below.setCell hb hlt _
    refine ⟨A, c, rfl, by omega, ?_, ⟨⟨A2, n2, c2, ?_, hle2, ?_⟩, ?_, hlt⟩, ?_⟩
    · rw [nx, if_neg (by rw [hln]; exact hk)]
      exact Kd.C_below (C_take' hC (by omega)) hB1
    · rw [nx, if_neg (by rw [hln]; exact hk)]
      exact (blk_set hr 0 _).trans rfl
    · rw [nx, if_neg (by rw [hln]; exact hk)]
      exact hC2
    · exact hB1
    · exact (Fr.refl r w).set 0 _
end Go.Proofs.YtbgbplbkombfjaaDoor
