/- WireSays: the walk of the law. -/
import Derived.Test.YtbgbplbkombfjaaDoorWRRead
import Derived.Test.YtbgbplbkombfjaaDoorWRBytes
import Derived.Test.YtbgbplbkombfjaaDoorWBytes
import Derived.Test.YtbgbplbkombfjaaDoorWSame
import Derived.Test.YtbgbplbkombfjaaDoorWSameRef
namespace Go.Proofs.YtbgbplbkombfjaaDoor
open Go.RowKit Go.Proofs.YtbgbplbkombfjaaDoorW.PrintWords SumPlain
set_option linter.unusedVariables false
set_option linter.unusedSimpArgs false
attribute [local go_sem] setCell_drewN alloc_drewN
theorem wire_ord : ∀ i, i ∈ wireErrs → i ∈ ordE := by decide
theorem read_ord : ∀ i, i ∈ readErrs → i ∈ ordE := by decide
theorem validL_ord (m : Msg) : ∀ i, validL m = some i → i ∈ ordE := by
  intro i
  unfold validL
  repeat' split
  all_goals (intro h; first | (cases h; decide) | cases h)
theorem readM_ord (l : List Int) : ∀ i, (readM l).2 = some i → i ∈ ordE := by
  intro i
  unfold readM
  split
  · intro h; cases h; decide
  split
  · intro h; cases h; decide
  split
  · intro h; cases h; decide
  split
  · intro h; cases h; decide
  split
  · intro h; cases h; decide
  split
  · intro h; cases h; decide
  split
  · rename_i k hk
    intro h
    cases h
    exact validL_ord _ _ hk
  · intro h; cases h
theorem readM_l4 (l : List Int) : (readM l).1.l.length ≤ 4 := by
  have z : zMsg.l.length ≤ 4 := by decide
  unfold readM
  split
  · exact z
  split
  · exact z
  split
  · exact z
  split
  · exact z
  split
  · exact z
  split
  · exact z
  split
  · exact z
  · rename_i hk
    exact (validL_none _ hk).2.1
theorem msgL_small (m : Msg) (h : 1 ≤ m.kind ∧ m.kind ≤ 5) (h4 : m.l.length ≤ 4) : (msgL m).length ≤ 1000000 := by
  rw [msgL_length m h]
  unfold sizeM
  repeat' split
  all_goals omega
theorem is_code (E : Nat → Addr) (x : Option Nat) (ev : Value) (z : Int) (hev : ev = errV E x) (hz : z = codeOf x) (hx : ∀ i, x = some i → i ∈ ordE) (w : World) (hE : Errs ordE E w) :
    Calls Tryd.prog 20 #[ev, .int .i64 z] w fun e w' => e = .returned (.bool true) ∧ Below w.heap.size w w' := by
  subst hev hz
  have h := is_any E x (codeOf x) hx w hE
  rwa [decide_eq_true rfl] at h
set_option maxHeartbeats 1000000 in
set_option maxRecDepth 100000 in
theorem says_long (E : Nat → Addr) (x0 x1 x2 x3 x4 x5 x6 : Int) (x7 : Bool) (lx : List Int) (y0 y1 y2 y3 y4 y5 y6 : Int) (y7 : Bool) (ly : List Int) (A0 A1 A : Option Addr) (n0 n1 n c0 c1 c : Nat) (l : List Int) (w : World) (hE : Errs ordE E w) (hw0 : (⟨x0, x1, x2, x3, x4, x5, x6, x7, lx⟩ : Msg).wf) (hw1 : (⟨y0, y1, y2, y3, y4, y5, y6, y7, ly⟩ : Msg).wf) (h0 : Kd.C (Kd.int .u32) w A0 n0 lx) (h1 : Kd.C (Kd.int .u32) w A1 n1 ly) (hn : 200 < n) (hmx : n ≤ 9223372036854775807) :
    Calls Tryd.prog 9 #[.agg #[.int .i64 x0, .int .u32 x1, .int .u32 x2, .int .u32 x3, .int .u32 x4, .int .i64 x5, .int .i64 x6, .bool x7, .slice A0 n0 c0], .agg #[.int .i64 y0, .int .u32 y1, .int .u32 y2, .int .u32 y3, .int .u32 y4, .int .i64 y5, .int .i64 y6, .bool y7, .slice A1 n1 c1], .slice A n c] w fun e w' => e = .returned (.bool true) ∧ Below w.heap.size w w' := by
  have hu2 := Tryd.underlying56
  have hu3 := Tryd.underlying53
  obtain ⟨W, hW⟩ : ∃ W, W = (w.alloc (.cells #[.int .i64 x0, .int .u32 x1, .int .u32 x2, .int .u32 x3, .int .u32 x4, .int .i64 x5, .int .i64 x6, .bool x7, .slice A0 n0 c0] 56)).alloc (.cells #[.int .i64 y0, .int .u32 y1, .int .u32 y2, .int .u32 y3, .int .u32 y4, .int .i64 y5, .int .i64 y6, .bool y7, .slice A1 n1 c1] 56) := ⟨_, rfl⟩
  have hb0 : Below w.heap.size w W := by rw [hW]; exact below_alloc (below_alloc (Below.refl _ _) _) _
  have hh : W.heap[w.heap.size]? = some (.cells #[.int .i64 x0, .int .u32 x1, .int .u32 x2, .int .u32 x3, .int .u32 x4, .int .i64 x5, .int .i64 x6, .bool x7, .slice A0 n0 c0] 56 (0, 0)) := by rw [hW]; exact blk_alloc (heap_alloc_new w _) _
  have hk : W.heap[w.heap.size + 1]? = some (.cells #[.int .i64 y0, .int .u32 y1, .int .u32 y2, .int .u32 y3, .int .u32 y4, .int .i64 y5, .int .i64 y6, .bool y7, .slice A1 n1 c1] 56 (0, 0)) := by rw [hW]; exact new_at _ _ _ (by simp)
  have HW := Aside0.mk (And.intro hE (And.intro hw0 (And.intro h0 h1)))
  have HS := Aside0.mk (And.intro hb0 (And.intro hh hk))
  have HX := Aside0.mk hW
  clear hb0 hh hk hW hE hw0 hw1 h0 h1
  have hd : decide (200 < (n : Int)) = true := decide_eq_true (by omega)
  go_enter Tryd.func9, Tryd.ntmps9
  go_wp2_with fail
  rw [← HX.out]
  obtain ⟨hb0, hh, hk⟩ := HS.out
  obtain ⟨b1, hb1⟩ : ∃ b1, b1 = w.heap.size + 1 := ⟨_, rfl⟩
  obtain ⟨b, hb⟩ : ∃ b, b = w.heap.size := ⟨_, rfl⟩
  rw [← hb1] at hk ⊢
  rw [← hb] at hh ⊢
  clear HX HS hb hb1
  refine (first4_any E W ((HW.out.1.below hb0).sub wire_ord)).mono ?_
  rintro e w2 ⟨rfl, hb2⟩
  have HQ := Aside0.mk (And.intro (blk_below hh hb2) (And.intro (blk_below hk hb2) (reach_to' hb0 hb0.size hb2)))
  clear hb0 hb2 hh hk
  have p0 := (blk_cell HQ.out.1 0).trans rfl
  have p1 := (blk_cell HQ.out.1 1).trans rfl
  have p2 := (blk_cell HQ.out.1 2).trans rfl
  have p3 := (blk_cell HQ.out.1 3).trans rfl
  have p4 := (blk_cell HQ.out.1 4).trans rfl
  have p5 := (blk_cell HQ.out.1 5).trans rfl
  have p6 := (blk_cell HQ.out.1 6).trans rfl
  have p7 := (blk_cell HQ.out.1 7).trans rfl
  have p8 := (blk_cell HQ.out.1 8).trans rfl
  have q0 := (blk_cell HQ.out.2.1 0).trans rfl
  have q1 := (blk_cell HQ.out.2.1 1).trans rfl
  have q2 := (blk_cell HQ.out.2.1 2).trans rfl
  have q3 := (blk_cell HQ.out.2.1 3).trans rfl
  have q4 := (blk_cell HQ.out.2.1 4).trans rfl
  have q5 := (blk_cell HQ.out.2.1 5).trans rfl
  have q6 := (blk_cell HQ.out.2.1 6).trans rfl
  have q7 := (blk_cell HQ.out.2.1 7).trans rfl
  have q8 := (blk_cell HQ.out.2.1 8).trans rfl
  go_wp2_with fail
  all_goals go_ret
  all_goals exact ⟨rfl, HQ.out.2.2⟩
set_option maxHeartbeats 1000000 in
set_option maxRecDepth 100000 in
theorem says_heavy0 (E : Nat → Addr) (x0 x1 x2 x3 x4 x5 x6 : Int) (x7 : Bool) (lx : List Int) (y0 y1 y2 y3 y4 y5 y6 : Int) (y7 : Bool) (ly : List Int) (A0 A1 A : Option Addr) (n0 n1 n c0 c1 c : Nat) (l : List Int) (w : World) (hE : Errs ordE E w) (hw0 : (⟨x0, x1, x2, x3, x4, x5, x6, x7, lx⟩ : Msg).wf) (hw1 : (⟨y0, y1, y2, y3, y4, y5, y6, y7, ly⟩ : Msg).wf) (h0 : Kd.C (Kd.int .u32) w A0 n0 lx) (h1 : Kd.C (Kd.int .u32) w A1 n1 ly) (hn : n ≤ 200) (hm : 20 < n0) :
    Calls Tryd.prog 9 #[.agg #[.int .i64 x0, .int .u32 x1, .int .u32 x2, .int .u32 x3, .int .u32 x4, .int .i64 x5, .int .i64 x6, .bool x7, .slice A0 n0 c0], .agg #[.int .i64 y0, .int .u32 y1, .int .u32 y2, .int .u32 y3, .int .u32 y4, .int .i64 y5, .int .i64 y6, .bool y7, .slice A1 n1 c1], .slice A n c] w fun e w' => e = .returned (.bool true) ∧ Below w.heap.size w w' := by
  have hu2 := Tryd.underlying56
  have hu3 := Tryd.underlying53
  obtain ⟨W, hW⟩ : ∃ W, W = (w.alloc (.cells #[.int .i64 x0, .int .u32 x1, .int .u32 x2, .int .u32 x3, .int .u32 x4, .int .i64 x5, .int .i64 x6, .bool x7, .slice A0 n0 c0] 56)).alloc (.cells #[.int .i64 y0, .int .u32 y1, .int .u32 y2, .int .u32 y3, .int .u32 y4, .int .i64 y5, .int .i64 y6, .bool y7, .slice A1 n1 c1] 56) := ⟨_, rfl⟩
  have hb0 : Below w.heap.size w W := by rw [hW]; exact below_alloc (below_alloc (Below.refl _ _) _) _
  have hh : W.heap[w.heap.size]? = some (.cells #[.int .i64 x0, .int .u32 x1, .int .u32 x2, .int .u32 x3, .int .u32 x4, .int .i64 x5, .int .i64 x6, .bool x7, .slice A0 n0 c0] 56 (0, 0)) := by rw [hW]; exact blk_alloc (heap_alloc_new w _) _
  have hk : W.heap[w.heap.size + 1]? = some (.cells #[.int .i64 y0, .int .u32 y1, .int .u32 y2, .int .u32 y3, .int .u32 y4, .int .i64 y5, .int .i64 y6, .bool y7, .slice A1 n1 c1] 56 (0, 0)) := by rw [hW]; exact new_at _ _ _ (by simp)
  have HW := Aside0.mk (And.intro hE (And.intro hw0 (And.intro h0 h1)))
  have HS := Aside0.mk (And.intro hb0 (And.intro hh hk))
  have HX := Aside0.mk hW
  clear hb0 hh hk hW hE hw0 hw1 h0 h1
  have hd : decide (200 < (n : Int)) = false := decide_eq_false (by omega)
  go_enter Tryd.func9, Tryd.ntmps9
  go_wp2_with fail
  rw [← HX.out]
  obtain ⟨hb0, hh, hk⟩ := HS.out
  obtain ⟨b1, hb1⟩ : ∃ b1, b1 = w.heap.size + 1 := ⟨_, rfl⟩
  obtain ⟨b, hb⟩ : ∃ b, b = w.heap.size := ⟨_, rfl⟩
  rw [← hb1] at hk ⊢
  rw [← hb] at hh ⊢
  clear HX HS hb hb1
  refine (first4_any E W ((HW.out.1.below hb0).sub wire_ord)).mono ?_
  rintro e w2 ⟨rfl, hb2⟩
  have HQ := Aside0.mk (And.intro (blk_below hh hb2) (And.intro (blk_below hk hb2) (reach_to' hb0 hb0.size hb2)))
  clear hb0 hb2 hh hk
  have p0 := (blk_cell HQ.out.1 0).trans rfl
  have p1 := (blk_cell HQ.out.1 1).trans rfl
  have p2 := (blk_cell HQ.out.1 2).trans rfl
  have p3 := (blk_cell HQ.out.1 3).trans rfl
  have p4 := (blk_cell HQ.out.1 4).trans rfl
  have p5 := (blk_cell HQ.out.1 5).trans rfl
  have p6 := (blk_cell HQ.out.1 6).trans rfl
  have p7 := (blk_cell HQ.out.1 7).trans rfl
  have p8 := (blk_cell HQ.out.1 8).trans rfl
  have q0 := (blk_cell HQ.out.2.1 0).trans rfl
  have q1 := (blk_cell HQ.out.2.1 1).trans rfl
  have q2 := (blk_cell HQ.out.2.1 2).trans rfl
  have q3 := (blk_cell HQ.out.2.1 3).trans rfl
  have q4 := (blk_cell HQ.out.2.1 4).trans rfl
  have q5 := (blk_cell HQ.out.2.1 5).trans rfl
  have q6 := (blk_cell HQ.out.2.1 6).trans rfl
  have q7 := (blk_cell HQ.out.2.1 7).trans rfl
  have q8 := (blk_cell HQ.out.2.1 8).trans rfl
  go_wp2_with fail
  refine (light_any ⟨x0, x1, x2, x3, x4, x5, x6, x7, lx⟩ A0 n0 c0 _).mono ?_
  rintro e w3 ⟨rfl, hb⟩
  rw [show decide ((n0 : Int) ≤ 20) = false from decide_eq_false (by omega)]
  have HQ := Aside0.mk (And.intro (blk_below HQ.out.1 hb) (And.intro (blk_below HQ.out.2.1 hb) (reach_to' HQ.out.2.2 HQ.out.2.2.size hb)))
  clear hb
  clear p0 p1 p2 p3 p4 p5 p6 p7 p8 q0 q1 q2 q3 q4 q5 q6 q7 q8
  have p0 := (blk_cell HQ.out.1 0).trans rfl
  have p1 := (blk_cell HQ.out.1 1).trans rfl
  have p2 := (blk_cell HQ.out.1 2).trans rfl
  have p3 := (blk_cell HQ.out.1 3).trans rfl
  have p4 := (blk_cell HQ.out.1 4).trans rfl
  have p5 := (blk_cell HQ.out.1 5).trans rfl
  have p6 := (blk_cell HQ.out.1 6).trans rfl
  have p7 := (blk_cell HQ.out.1 7).trans rfl
  have p8 := (blk_cell HQ.out.1 8).trans rfl
  have q0 := (blk_cell HQ.out.2.1 0).trans rfl
  have q1 := (blk_cell HQ.out.2.1 1).trans rfl
  have q2 := (blk_cell HQ.out.2.1 2).trans rfl
  have q3 := (blk_cell HQ.out.2.1 3).trans rfl
  have q4 := (blk_cell HQ.out.2.1 4).trans rfl
  have q5 := (blk_cell HQ.out.2.1 5).trans rfl
  have q6 := (blk_cell HQ.out.2.1 6).trans rfl
  have q7 := (blk_cell HQ.out.2.1 7).trans rfl
  have q8 := (blk_cell HQ.out.2.1 8).trans rfl
  go_wp2
  all_goals go_ret
  all_goals exact ⟨rfl, HQ.out.2.2⟩
set_option maxHeartbeats 1000000 in
set_option maxRecDepth 100000 in
theorem says_heavy1 (E : Nat → Addr) (x0 x1 x2 x3 x4 x5 x6 : Int) (x7 : Bool) (lx : List Int) (y0 y1 y2 y3 y4 y5 y6 : Int) (y7 : Bool) (ly : List Int) (A0 A1 A : Option Addr) (n0 n1 n c0 c1 c : Nat) (l : List Int) (w : World) (hE : Errs ordE E w) (hw0 : (⟨x0, x1, x2, x3, x4, x5, x6, x7, lx⟩ : Msg).wf) (hw1 : (⟨y0, y1, y2, y3, y4, y5, y6, y7, ly⟩ : Msg).wf) (h0 : Kd.C (Kd.int .u32) w A0 n0 lx) (h1 : Kd.C (Kd.int .u32) w A1 n1 ly) (hn : n ≤ 200) (hm0 : n0 ≤ 20) (hm : 20 < n1) :
    Calls Tryd.prog 9 #[.agg #[.int .i64 x0, .int .u32 x1, .int .u32 x2, .int .u32 x3, .int .u32 x4, .int .i64 x5, .int .i64 x6, .bool x7, .slice A0 n0 c0], .agg #[.int .i64 y0, .int .u32 y1, .int .u32 y2, .int .u32 y3, .int .u32 y4, .int .i64 y5, .int .i64 y6, .bool y7, .slice A1 n1 c1], .slice A n c] w fun e w' => e = .returned (.bool true) ∧ Below w.heap.size w w' := by
  have hu2 := Tryd.underlying56
  have hu3 := Tryd.underlying53
  obtain ⟨W, hW⟩ : ∃ W, W = (w.alloc (.cells #[.int .i64 x0, .int .u32 x1, .int .u32 x2, .int .u32 x3, .int .u32 x4, .int .i64 x5, .int .i64 x6, .bool x7, .slice A0 n0 c0] 56)).alloc (.cells #[.int .i64 y0, .int .u32 y1, .int .u32 y2, .int .u32 y3, .int .u32 y4, .int .i64 y5, .int .i64 y6, .bool y7, .slice A1 n1 c1] 56) := ⟨_, rfl⟩
  have hb0 : Below w.heap.size w W := by rw [hW]; exact below_alloc (below_alloc (Below.refl _ _) _) _
  have hh : W.heap[w.heap.size]? = some (.cells #[.int .i64 x0, .int .u32 x1, .int .u32 x2, .int .u32 x3, .int .u32 x4, .int .i64 x5, .int .i64 x6, .bool x7, .slice A0 n0 c0] 56 (0, 0)) := by rw [hW]; exact blk_alloc (heap_alloc_new w _) _
  have hk : W.heap[w.heap.size + 1]? = some (.cells #[.int .i64 y0, .int .u32 y1, .int .u32 y2, .int .u32 y3, .int .u32 y4, .int .i64 y5, .int .i64 y6, .bool y7, .slice A1 n1 c1] 56 (0, 0)) := by rw [hW]; exact new_at _ _ _ (by simp)
  have HW := Aside0.mk (And.intro hE (And.intro hw0 (And.intro h0 h1)))
  have HS := Aside0.mk (And.intro hb0 (And.intro hh hk))
  have HX := Aside0.mk hW
  clear hb0 hh hk hW hE hw0 hw1 h0 h1
  have hd : decide (200 < (n : Int)) = false := decide_eq_false (by omega)
  go_enter Tryd.func9, Tryd.ntmps9
  go_wp2_with fail
  rw [← HX.out]
  obtain ⟨hb0, hh, hk⟩ := HS.out
  obtain ⟨b1, hb1⟩ : ∃ b1, b1 = w.heap.size + 1 := ⟨_, rfl⟩
  obtain ⟨b, hb⟩ : ∃ b, b = w.heap.size := ⟨_, rfl⟩
  rw [← hb1] at hk ⊢
  rw [← hb] at hh ⊢
  clear HX HS hb hb1
  refine (first4_any E W ((HW.out.1.below hb0).sub wire_ord)).mono ?_
  rintro e w2 ⟨rfl, hb2⟩
  have HQ := Aside0.mk (And.intro (blk_below hh hb2) (And.intro (blk_below hk hb2) (reach_to' hb0 hb0.size hb2)))
  clear hb0 hb2 hh hk
  have p0 := (blk_cell HQ.out.1 0).trans rfl
  have p1 := (blk_cell HQ.out.1 1).trans rfl
  have p2 := (blk_cell HQ.out.1 2).trans rfl
  have p3 := (blk_cell HQ.out.1 3).trans rfl
  have p4 := (blk_cell HQ.out.1 4).trans rfl
  have p5 := (blk_cell HQ.out.1 5).trans rfl
  have p6 := (blk_cell HQ.out.1 6).trans rfl
  have p7 := (blk_cell HQ.out.1 7).trans rfl
  have p8 := (blk_cell HQ.out.1 8).trans rfl
  have q0 := (blk_cell HQ.out.2.1 0).trans rfl
  have q1 := (blk_cell HQ.out.2.1 1).trans rfl
  have q2 := (blk_cell HQ.out.2.1 2).trans rfl
  have q3 := (blk_cell HQ.out.2.1 3).trans rfl
  have q4 := (blk_cell HQ.out.2.1 4).trans rfl
  have q5 := (blk_cell HQ.out.2.1 5).trans rfl
  have q6 := (blk_cell HQ.out.2.1 6).trans rfl
  have q7 := (blk_cell HQ.out.2.1 7).trans rfl
  have q8 := (blk_cell HQ.out.2.1 8).trans rfl
  go_wp2_with fail
  refine (light_any ⟨x0, x1, x2, x3, x4, x5, x6, x7, lx⟩ A0 n0 c0 _).mono ?_
  rintro e w3 ⟨rfl, hb⟩
  rw [show decide ((n0 : Int) ≤ 20) = true from decide_eq_true (by omega)]
  have HQ := Aside0.mk (And.intro (blk_below HQ.out.1 hb) (And.intro (blk_below HQ.out.2.1 hb) (reach_to' HQ.out.2.2 HQ.out.2.2.size hb)))
  clear hb
  clear p0 p1 p2 p3 p4 p5 p6 p7 p8 q0 q1 q2 q3 q4 q5 q6 q7 q8
  have p0 := (blk_cell HQ.out.1 0).trans rfl
  have p1 := (blk_cell HQ.out.1 1).trans rfl
  have p2 := (blk_cell HQ.out.1 2).trans rfl
  have p3 := (blk_cell HQ.out.1 3).trans rfl
  have p4 := (blk_cell HQ.out.1 4).trans rfl
  have p5 := (blk_cell HQ.out.1 5).trans rfl
  have p6 := (blk_cell HQ.out.1 6).trans rfl
  have p7 := (blk_cell HQ.out.1 7).trans rfl
  have p8 := (blk_cell HQ.out.1 8).trans rfl
  have q0 := (blk_cell HQ.out.2.1 0).trans rfl
  have q1 := (blk_cell HQ.out.2.1 1).trans rfl
  have q2 := (blk_cell HQ.out.2.1 2).trans rfl
  have q3 := (blk_cell HQ.out.2.1 3).trans rfl
  have q4 := (blk_cell HQ.out.2.1 4).trans rfl
  have q5 := (blk_cell HQ.out.2.1 5).trans rfl
  have q6 := (blk_cell HQ.out.2.1 6).trans rfl
  have q7 := (blk_cell HQ.out.2.1 7).trans rfl
  have q8 := (blk_cell HQ.out.2.1 8).trans rfl
  go_wp2_with fail
  refine (light_any ⟨y0, y1, y2, y3, y4, y5, y6, y7, ly⟩ A1 n1 c1 _).mono ?_
  rintro e w3 ⟨rfl, hb⟩
  rw [show decide ((n1 : Int) ≤ 20) = false from decide_eq_false (by omega)]
  have HQ := Aside0.mk (And.intro (blk_below HQ.out.1 hb) (And.intro (blk_below HQ.out.2.1 hb) (reach_to' HQ.out.2.2 HQ.out.2.2.size hb)))
  clear hb
  clear p0 p1 p2 p3 p4 p5 p6 p7 p8 q0 q1 q2 q3 q4 q5 q6 q7 q8
  have p0 := (blk_cell HQ.out.1 0).trans rfl
  have p1 := (blk_cell HQ.out.1 1).trans rfl
  have p2 := (blk_cell HQ.out.1 2).trans rfl
  have p3 := (blk_cell HQ.out.1 3).trans rfl
  have p4 := (blk_cell HQ.out.1 4).trans rfl
  have p5 := (blk_cell HQ.out.1 5).trans rfl
  have p6 := (blk_cell HQ.out.1 6).trans rfl
  have p7 := (blk_cell HQ.out.1 7).trans rfl
  have p8 := (blk_cell HQ.out.1 8).trans rfl
  have q0 := (blk_cell HQ.out.2.1 0).trans rfl
  have q1 := (blk_cell HQ.out.2.1 1).trans rfl
  have q2 := (blk_cell HQ.out.2.1 2).trans rfl
  have q3 := (blk_cell HQ.out.2.1 3).trans rfl
  have q4 := (blk_cell HQ.out.2.1 4).trans rfl
  have q5 := (blk_cell HQ.out.2.1 5).trans rfl
  have q6 := (blk_cell HQ.out.2.1 6).trans rfl
  have q7 := (blk_cell HQ.out.2.1 7).trans rfl
  have q8 := (blk_cell HQ.out.2.1 8).trans rfl
  go_wp2
  all_goals go_ret
  all_goals exact ⟨rfl, HQ.out.2.2⟩
set_option maxHeartbeats 16000000 in
set_option maxRecDepth 100000 in
theorem says_ok (E : Nat → Addr) (x0 x1 x2 x3 x4 x5 x6 : Int) (x7 : Bool) (lx : List Int) (y0 y1 y2 y3 y4 y5 y6 : Int) (y7 : Bool) (ly : List Int) (A0 A1 A : Option Addr) (n0 n1 n c0 c1 c : Nat) (l : List Int) (w : World) (hE : Errs ordE E w) (hw0 : (⟨x0, x1, x2, x3, x4, x5, x6, x7, lx⟩ : Msg).wf) (hw1 : (⟨y0, y1, y2, y3, y4, y5, y6, y7, ly⟩ : Msg).wf) (h0 : Kd.C (Kd.int .u32) w A0 n0 lx) (h1 : Kd.C (Kd.int .u32) w A1 n1 ly) (hC : Kd.C (Kd.int .u8) w A n l) (hby : Byt l) (hle : n ≤ c) (hn : n ≤ 200) (hm0 : n0 ≤ 20) (hm1 : n1 ≤ 20) (hv : validL ⟨x0, x1, x2, x3, x4, x5, x6, x7, lx⟩ = none) (u0 u1 u2 u3 u4 u5 u6 : Int) (u7 : Bool) (lu : List Int) (x : Option Nat) (hR : readM l = (⟨u0, u1, u2, u3, u4, u5, u6, u7, lu⟩, x)) (hlu : lu.length ≤ 4) (hxo : ∀ i, x = some i → i ∈ ordE) :
    Calls Tryd.prog 9 #[.agg #[.int .i64 x0, .int .u32 x1, .int .u32 x2, .int .u32 x3, .int .u32 x4, .int .i64 x5, .int .i64 x6, .bool x7, .slice A0 n0 c0], .agg #[.int .i64 y0, .int .u32 y1, .int .u32 y2, .int .u32 y3, .int .u32 y4, .int .i64 y5, .int .i64 y6, .bool y7, .slice A1 n1 c1], .slice A n c] w fun e w' => e = .returned (.bool true) ∧ Below w.heap.size w w' := by
  have hu2 := Tryd.underlying56
  have hu3 := Tryd.underlying53
  obtain ⟨W, hW⟩ : ∃ W, W = (w.alloc (.cells #[.int .i64 x0, .int .u32 x1, .int .u32 x2, .int .u32 x3, .int .u32 x4, .int .i64 x5, .int .i64 x6, .bool x7, .slice A0 n0 c0] 56)).alloc (.cells #[.int .i64 y0, .int .u32 y1, .int .u32 y2, .int .u32 y3, .int .u32 y4, .int .i64 y5, .int .i64 y6, .bool y7, .slice A1 n1 c1] 56) := ⟨_, rfl⟩
  have hb0 : Below w.heap.size w W := by rw [hW]; exact below_alloc (below_alloc (Below.refl _ _) _) _
  have hh : W.heap[w.heap.size]? = some (.cells #[.int .i64 x0, .int .u32 x1, .int .u32 x2, .int .u32 x3, .int .u32 x4, .int .i64 x5, .int .i64 x6, .bool x7, .slice A0 n0 c0] 56 (0, 0)) := by rw [hW]; exact blk_alloc (heap_alloc_new w _) _
  have hk : W.heap[w.heap.size + 1]? = some (.cells #[.int .i64 y0, .int .u32 y1, .int .u32 y2, .int .u32 y3, .int .u32 y4, .int .i64 y5, .int .i64 y6, .bool y7, .slice A1 n1 c1] 56 (0, 0)) := by rw [hW]; exact new_at _ _ _ (by simp)
  have HW := Aside0.mk (And.intro hE (And.intro hw0 (And.intro h0 h1)))
  have HS := Aside0.mk (And.intro hb0 (And.intro hh hk))
  have HX := Aside0.mk hW
  clear hb0 hh hk hW hE hw0 hw1 h0 h1
  have hd : decide (200 < (n : Int)) = false := decide_eq_false (by omega)
  have HB := Aside0.mk (And.intro hC (And.intro hby (And.intro hle (And.intro hR (And.intro hlu hxo)))))
  have hcl := hC.1
  have HL := Aside0.mk (show l.length ≤ 1000000 by omega)
  clear hC hby hle hR hlu hxo hcl
  have HN := Aside0.mk (And.intro hv (validL_none _ hv))
  clear hv
  go_enter Tryd.func9, Tryd.ntmps9
  go_wp2_with fail
  rw [← HX.out]
  obtain ⟨hb0, hh, hk⟩ := HS.out
  obtain ⟨b1, hb1⟩ : ∃ b1, b1 = w.heap.size + 1 := ⟨_, rfl⟩
  obtain ⟨b, hb⟩ : ∃ b, b = w.heap.size := ⟨_, rfl⟩
  rw [← hb1] at hk ⊢
  rw [← hb] at hh ⊢
  clear HX HS hb hb1
  refine (first4_any E W ((HW.out.1.below hb0).sub wire_ord)).mono ?_
  rintro e w2 ⟨rfl, hb2⟩
  have HQ := Aside0.mk (And.intro (blk_below hh hb2) (And.intro (blk_below hk hb2) (reach_to' hb0 hb0.size hb2)))
  clear hb0 hb2 hh hk
  have p0 := (blk_cell HQ.out.1 0).trans rfl
  have p1 := (blk_cell HQ.out.1 1).trans rfl
  have p2 := (blk_cell HQ.out.1 2).trans rfl
  have p3 := (blk_cell HQ.out.1 3).trans rfl
  have p4 := (blk_cell HQ.out.1 4).trans rfl
  have p5 := (blk_cell HQ.out.1 5).trans rfl
  have p6 := (blk_cell HQ.out.1 6).trans rfl
  have p7 := (blk_cell HQ.out.1 7).trans rfl
  have p8 := (blk_cell HQ.out.1 8).trans rfl
  have q0 := (blk_cell HQ.out.2.1 0).trans rfl
  have q1 := (blk_cell HQ.out.2.1 1).trans rfl
  have q2 := (blk_cell HQ.out.2.1 2).trans rfl
  have q3 := (blk_cell HQ.out.2.1 3).trans rfl
  have q4 := (blk_cell HQ.out.2.1 4).trans rfl
  have q5 := (blk_cell HQ.out.2.1 5).trans rfl
  have q6 := (blk_cell HQ.out.2.1 6).trans rfl
  have q7 := (blk_cell HQ.out.2.1 7).trans rfl
  have q8 := (blk_cell HQ.out.2.1 8).trans rfl
  go_wp2_with fail
  refine (light_any ⟨x0, x1, x2, x3, x4, x5, x6, x7, lx⟩ A0 n0 c0 _).mono ?_
  rintro e w3 ⟨rfl, hb⟩
  rw [show decide ((n0 : Int) ≤ 20) = true from decide_eq_true (by omega)]
  have HQ := Aside0.mk (And.intro (blk_below HQ.out.1 hb) (And.intro (blk_below HQ.out.2.1 hb) (reach_to' HQ.out.2.2 HQ.out.2.2.size hb)))
  clear hb
  clear p0 p1 p2 p3 p4 p5 p6 p7 p8 q0 q1 q2 q3 q4 q5 q6 q7 q8
  have p0 := (blk_cell HQ.out.1 0).trans rfl
  have p1 := (blk_cell HQ.out.1 1).trans rfl
  have p2 := (blk_cell HQ.out.1 2).trans rfl
  have p3 := (blk_cell HQ.out.1 3).trans rfl
  have p4 := (blk_cell HQ.out.1 4).trans rfl
  have p5 := (blk_cell HQ.out.1 5).trans rfl
  have p6 := (blk_cell HQ.out.1 6).trans rfl
  have p7 := (blk_cell HQ.out.1 7).trans rfl
  have p8 := (blk_cell HQ.out.1 8).trans rfl
  have q0 := (blk_cell HQ.out.2.1 0).trans rfl
  have q1 := (blk_cell HQ.out.2.1 1).trans rfl
  have q2 := (blk_cell HQ.out.2.1 2).trans rfl
  have q3 := (blk_cell HQ.out.2.1 3).trans rfl
  have q4 := (blk_cell HQ.out.2.1 4).trans rfl
  have q5 := (blk_cell HQ.out.2.1 5).trans rfl
  have q6 := (blk_cell HQ.out.2.1 6).trans rfl
  have q7 := (blk_cell HQ.out.2.1 7).trans rfl
  have q8 := (blk_cell HQ.out.2.1 8).trans rfl
  go_wp2_with fail
  refine (light_any ⟨y0, y1, y2, y3, y4, y5, y6, y7, ly⟩ A1 n1 c1 _).mono ?_
  rintro e w3 ⟨rfl, hb⟩
  rw [show decide ((n1 : Int) ≤ 20) = true from decide_eq_true (by omega)]
  have HQ := Aside0.mk (And.intro (blk_below HQ.out.1 hb) (And.intro (blk_below HQ.out.2.1 hb) (reach_to' HQ.out.2.2 HQ.out.2.2.size hb)))
  clear hb
  clear p0 p1 p2 p3 p4 p5 p6 p7 p8 q0 q1 q2 q3 q4 q5 q6 q7 q8
  have p0 := (blk_cell HQ.out.1 0).trans rfl
  have p1 := (blk_cell HQ.out.1 1).trans rfl
  have p2 := (blk_cell HQ.out.1 2).trans rfl
  have p3 := (blk_cell HQ.out.1 3).trans rfl
  have p4 := (blk_cell HQ.out.1 4).trans rfl
  have p5 := (blk_cell HQ.out.1 5).trans rfl
  have p6 := (blk_cell HQ.out.1 6).trans rfl
  have p7 := (blk_cell HQ.out.1 7).trans rfl
  have p8 := (blk_cell HQ.out.1 8).trans rfl
  have q0 := (blk_cell HQ.out.2.1 0).trans rfl
  have q1 := (blk_cell HQ.out.2.1 1).trans rfl
  have q2 := (blk_cell HQ.out.2.1 2).trans rfl
  have q3 := (blk_cell HQ.out.2.1 3).trans rfl
  have q4 := (blk_cell HQ.out.2.1 4).trans rfl
  have q5 := (blk_cell HQ.out.2.1 5).trans rfl
  have q6 := (blk_cell HQ.out.2.1 6).trans rfl
  have q7 := (blk_cell HQ.out.2.1 7).trans rfl
  have q8 := (blk_cell HQ.out.2.1 8).trans rfl
  go_wp2_with fail
  obtain ⟨z, hz⟩ : ∃ z, z = codeOf (validL ⟨x0, x1, x2, x3, x4, x5, x6, x7, lx⟩) := ⟨_, rfl⟩
  obtain ⟨ev, hev⟩ : ∃ ev, ev = errV E (validL ⟨x0, x1, x2, x3, x4, x5, x6, x7, lx⟩) := ⟨_, rfl⟩
  obtain ⟨sb, hsb⟩ : ∃ sb, sb = decide ((⟨x0, x1, x2, x3, x4, x5, x6, x7, lx⟩ : Msg) = ⟨y0, y1, y2, y3, y4, y5, y6, y7, ly⟩) := ⟨_, rfl⟩
  refine (rvalid_any ⟨x0, x1, x2, x3, x4, x5, x6, x7, lx⟩ A0 n0 c0 _ HW.out.2.1 (Kd.C_below HW.out.2.2.1 HQ.out.2.2)).mono ?_
  rintro e w4 ⟨rfl, hb⟩
  rw [← hz]
  have HQ := Aside0.mk (And.intro (blk_below HQ.out.1 hb) (And.intro (blk_below HQ.out.2.1 hb) (reach_to' HQ.out.2.2 HQ.out.2.2.size hb)))
  clear hb
  clear p0 p1 p2 p3 p4 p5 p6 p7 p8 q0 q1 q2 q3 q4 q5 q6 q7 q8
  have p0 := (blk_cell HQ.out.1 0).trans rfl
  have p1 := (blk_cell HQ.out.1 1).trans rfl
  have p2 := (blk_cell HQ.out.1 2).trans rfl
  have p3 := (blk_cell HQ.out.1 3).trans rfl
  have p4 := (blk_cell HQ.out.1 4).trans rfl
  have p5 := (blk_cell HQ.out.1 5).trans rfl
  have p6 := (blk_cell HQ.out.1 6).trans rfl
  have p7 := (blk_cell HQ.out.1 7).trans rfl
  have p8 := (blk_cell HQ.out.1 8).trans rfl
  have q0 := (blk_cell HQ.out.2.1 0).trans rfl
  have q1 := (blk_cell HQ.out.2.1 1).trans rfl
  have q2 := (blk_cell HQ.out.2.1 2).trans rfl
  have q3 := (blk_cell HQ.out.2.1 3).trans rfl
  have q4 := (blk_cell HQ.out.2.1 4).trans rfl
  have q5 := (blk_cell HQ.out.2.1 5).trans rfl
  have q6 := (blk_cell HQ.out.2.1 6).trans rfl
  have q7 := (blk_cell HQ.out.2.1 7).trans rfl
  have q8 := (blk_cell HQ.out.2.1 8).trans rfl
  have HV := Aside0.mk (And.intro hev (And.intro hz hsb))
  clear hz hev hsb
  go_wp2_with fail
  refine (wbytes_any E ⟨x0, x1, x2, x3, x4, x5, x6, x7, lx⟩ A0 n0 c0 _ ((HW.out.1.below HQ.out.2.2).sub wire_ord) HW.out.2.1 (Kd.C_below HW.out.2.2.1 HQ.out.2.2)).mono ?_
  rintro e u ⟨v3, rfl, hR3, hb⟩
  rw [← HV.out.1]
  obtain ⟨A3, c3, rfl, hle3, hC3⟩ := Kd.R_reads hR3
  have hwb : wbL ⟨x0, x1, x2, x3, x4, x5, x6, x7, lx⟩ = msgL ⟨x0, x1, x2, x3, x4, x5, x6, x7, lx⟩ := by unfold wbL; rw [HN.out.1, if_pos rfl]
  rw [hwb] at hC3 ⊢
  generalize hN3 : (msgL ⟨x0, x1, x2, x3, x4, x5, x6, x7, lx⟩).length = n3 at *
  have H3 := Aside0.mk hC3
  clear hC3 hle3 hR3 hwb hN3
  have HQ := Aside0.mk (And.intro (blk_below HQ.out.1 hb) (And.intro (blk_below HQ.out.2.1 hb) (reach_to' HQ.out.2.2 HQ.out.2.2.size hb)))
  clear hb
  clear p0 p1 p2 p3 p4 p5 p6 p7 p8 q0 q1 q2 q3 q4 q5 q6 q7 q8
  have p0 := (blk_cell HQ.out.1 0).trans rfl
  have p1 := (blk_cell HQ.out.1 1).trans rfl
  have p2 := (blk_cell HQ.out.1 2).trans rfl
  have p3 := (blk_cell HQ.out.1 3).trans rfl
  have p4 := (blk_cell HQ.out.1 4).trans rfl
  have p5 := (blk_cell HQ.out.1 5).trans rfl
  have p6 := (blk_cell HQ.out.1 6).trans rfl
  have p7 := (blk_cell HQ.out.1 7).trans rfl
  have p8 := (blk_cell HQ.out.1 8).trans rfl
  have q0 := (blk_cell HQ.out.2.1 0).trans rfl
  have q1 := (blk_cell HQ.out.2.1 1).trans rfl
  have q2 := (blk_cell HQ.out.2.1 2).trans rfl
  have q3 := (blk_cell HQ.out.2.1 3).trans rfl
  have q4 := (blk_cell HQ.out.2.1 4).trans rfl
  have q5 := (blk_cell HQ.out.2.1 5).trans rfl
  have q6 := (blk_cell HQ.out.2.1 6).trans rfl
  have q7 := (blk_cell HQ.out.2.1 7).trans rfl
  have q8 := (blk_cell HQ.out.2.1 8).trans rfl
  go_wp2_with fail
  clear p0 p1 p2 p3 p4 p5 p6 p7 p8 q0 q1 q2 q3 q4 q5 q6 q7 q8
  refine wp_region_held_drew (S := (fun w' => w'.heap[b]? = some (.cells #[.int .i64 x0, .int .u32 x1, .int .u32 x2, .int .u32 x3, .int .u32 x4, .int .i64 x5, .int .i64 x6, .bool x7, .slice A0 n0 c0] 56 (0, 0)) ∧ w'.heap[b1]? = some (.cells #[.int .i64 y0, .int .u32 y1, .int .u32 y2, .int .u32 y3, .int .u32 y4, .int .i64 y5, .int .i64 y6, .bool y7, .slice A1 n1 c1] 56 (0, 0)))) (by kernel_rfl) ?_ (fun hHeld => ?_)
  · (refine (fun hK : Below u.heap.size u _ => ⟨blk_below HQ.out.1 hK, blk_below HQ.out.2.1 hK⟩) ?_; (first | assumption | exact Below.refl _ _ | (refine below_drew ?_; first | assumption | exact Below.refl _ _)))
  refine wpAnyH_take (i := 0) (v := ?_) rfl (by kernel_rfl) (by kernel_rfl) (by kernel_rfl) (fun _ _ _ h => h) (Or.inl ⟨by rfl, ?_⟩) (by assumption) ?_
  rotate_left 1
  · intro w9 hSw; (try dsimp only at hSw); obtain ⟨hs0, hs1⟩ := hSw; have s0 := (blk_cell hs0 0).trans rfl; have s1 := (blk_cell hs0 1).trans rfl; have s2 := (blk_cell hs0 2).trans rfl; have s3 := (blk_cell hs0 3).trans rfl; have s4 := (blk_cell hs0 4).trans rfl; have s5 := (blk_cell hs0 5).trans rfl; have s6 := (blk_cell hs0 6).trans rfl; have s7 := (blk_cell hs0 7).trans rfl; have s8 := (blk_cell hs0 8).trans rfl; clear hs0 hs1; go_simp; try with_reducible rfl
  try simp only [Act.put, List.getElem_toArray, List.getElem_cons_zero, List.getElem_cons_succ, List.setIfInBounds_toArray, List.set_cons_zero, List.set_cons_succ]
  refine wpAnyH_take (i := 2) (v := ?_) rfl (by kernel_rfl) (by kernel_rfl) (by kernel_rfl) (fun _ _ _ h => h) (Or.inl ⟨by rfl, ?_⟩) (by assumption) ?_
  rotate_left 1
  · intro w9 hSw; (try dsimp only at hSw); go_simp; try with_reducible rfl
  try simp only [Act.put, List.getElem_toArray, List.getElem_cons_zero, List.getElem_cons_succ, List.setIfInBounds_toArray, List.set_cons_zero, List.set_cons_succ]
  refine wpAnyH_ready (rs := [1]) (by kernel_rfl) (by simp) ?_
  refine AllReadyH.cons rfl (fun K hK => ?_) ?_
  · go_simp
    refine (valid_any E ⟨x0, x1, x2, x3, x4, x5, x6, x7, lx⟩ A0 n0 c0 _ ((HW.out.1.below (below_drew HQ.out.2.2)).sub wire_ord) HW.out.2.1 (Kd.C_below HW.out.2.2.1 (below_drew HQ.out.2.2))).mono ?_
    rintro e ua ⟨rfl, hba⟩
    have hka : Below u.heap.size u ua := reach_to' (below_drew (Below.refl _ _)) (Nat.le_refl _) hba
    rw [← HV.out.1]
    clear hba
    refine hK.out _ _ ?_ (fun hHeld => ?_)
    · (refine (fun hK : Below u.heap.size u _ => ⟨blk_below HQ.out.1 hK, blk_below HQ.out.2.1 hK⟩) ?_; (first | assumption | exact Below.refl _ _ | (refine below_drew ?_; first | assumption | exact Below.refl _ _)))
    clear hK K
    try simp only [Act.put, List.getElem_toArray, List.getElem_cons_zero, List.getElem_cons_succ, List.setIfInBounds_toArray, List.set_cons_zero, List.set_cons_succ]
    refine wpAnyH_ready (rs := [3]) (by kernel_rfl) (by simp) ?_
    refine AllReadyH.cons rfl (fun K hK => ?_) ?_
    · go_simp
      refine (is_code E (validL ⟨x0, x1, x2, x3, x4, x5, x6, x7, lx⟩) ev z HV.out.1 HV.out.2.1 (validL_ord _) _ (HW.out.1.below (reach_to' HQ.out.2.2 HQ.out.2.2.size hka))).mono ?_
      rintro e ub ⟨rfl, hbb⟩
      have hkb : Below u.heap.size u ub := reach_to' hka hka.size hbb
      clear hbb
      refine hK.out _ _ ?_ (fun hHeld => ?_)
      · (refine (fun hK : Below u.heap.size u _ => ⟨blk_below HQ.out.1 hK, blk_below HQ.out.2.1 hK⟩) ?_; (first | assumption | exact Below.refl _ _ | (refine below_drew ?_; first | assumption | exact Below.refl _ _)))
      clear hK K
      try simp only [Act.put, List.getElem_toArray, List.getElem_cons_zero, List.getElem_cons_succ, List.setIfInBounds_toArray, List.set_cons_zero, List.set_cons_succ]
      refine wpAnyH_take (i := 4) (v := ?_) rfl (by kernel_rfl) (by kernel_rfl) (by kernel_rfl) (fun _ _ _ h => h) (Or.inl ⟨by rfl, ?_⟩) (by assumption) ?_
      rotate_left 1
      · intro w9 hSw; (try dsimp only at hSw); go_simp; try with_reducible rfl
      try simp only [Act.put, List.getElem_toArray, List.getElem_cons_zero, List.getElem_cons_succ, List.setIfInBounds_toArray, List.set_cons_zero, List.set_cons_succ]
      refine wpAnyH_take (i := 5) (v := ?_) rfl (by kernel_rfl) (by kernel_rfl) (by kernel_rfl) (fun _ _ _ h => h) (Or.inl ⟨by rfl, ?_⟩) (by assumption) ?_
      rotate_left 1
      · intro w9 hSw; (try dsimp only at hSw); go_simp; try with_reducible rfl
      try simp only [Act.put, List.getElem_toArray, List.getElem_cons_zero, List.getElem_cons_succ, List.setIfInBounds_toArray, List.set_cons_zero, List.set_cons_succ]
      refine wpAnyH_take (i := 6) (v := ?_) rfl (by kernel_rfl) (by kernel_rfl) (by kernel_rfl) (fun _ _ _ h => h) (Or.inl ⟨by rfl, ?_⟩) (by assumption) ?_
      rotate_left 1
      · intro w9 hSw; (try dsimp only at hSw); go_simp; try with_reducible rfl
      try simp only [Act.put, List.getElem_toArray, List.getElem_cons_zero, List.getElem_cons_succ, List.setIfInBounds_toArray, List.set_cons_zero, List.set_cons_succ]
      refine wpAnyH_take (i := 7) (v := ?_) rfl (by kernel_rfl) (by kernel_rfl) (by kernel_rfl) (fun _ _ _ h => h) (Or.inl ⟨by rfl, ?_⟩) (by assumption) ?_
      rotate_left 1
      · intro w9 hSw; (try dsimp only at hSw); go_simp; try with_reducible rfl
      try simp only [Act.put, List.getElem_toArray, List.getElem_cons_zero, List.getElem_cons_succ, List.setIfInBounds_toArray, List.set_cons_zero, List.set_cons_succ]
      refine wpAnyH_ready (rs := [8]) (by kernel_rfl) (by simp) ?_
      refine AllReadyH.cons rfl (fun K hK => ?_) ?_
      · go_simp
        refine (is_code E (validL ⟨x0, x1, x2, x3, x4, x5, x6, x7, lx⟩) ev z HV.out.1 HV.out.2.1 (validL_ord _) _ (HW.out.1.below (reach_to' HQ.out.2.2 HQ.out.2.2.size hkb))).mono ?_
        rintro e uc ⟨rfl, hbc⟩
        have hkc : Below u.heap.size u uc := reach_to' hkb hkb.size hbc
        clear hbc
        refine hK.out _ _ ?_ (fun hHeld => ?_)
        · (refine (fun hK : Below u.heap.size u _ => ⟨blk_below HQ.out.1 hK, blk_below HQ.out.2.1 hK⟩) ?_; (first | assumption | exact Below.refl _ _ | (refine below_drew ?_; first | assumption | exact Below.refl _ _)))
        clear hK K
        try simp only [Act.put, List.getElem_toArray, List.getElem_cons_zero, List.getElem_cons_succ, List.setIfInBounds_toArray, List.set_cons_zero, List.set_cons_succ]
        refine wpAnyH_take (i := 9) (v := ?_) rfl (by kernel_rfl) (by kernel_rfl) (by kernel_rfl) (fun _ _ _ h => h) (Or.inl ⟨by rfl, ?_⟩) (by assumption) ?_
        rotate_left 1
        · intro w9 hSw; (try dsimp only at hSw); go_simp; try with_reducible rfl
        try simp only [Act.put, List.getElem_toArray, List.getElem_cons_zero, List.getElem_cons_succ, List.setIfInBounds_toArray, List.set_cons_zero, List.set_cons_succ]
        refine wpAnyH_take (i := 10) (v := ?_) rfl (by kernel_rfl) (by kernel_rfl) (by kernel_rfl) (fun _ _ _ h => h) (Or.inl ⟨by rfl, ?_⟩) (by assumption) ?_
        rotate_left 1
        · intro w9 hSw; (try dsimp only at hSw); go_simp; try with_reducible rfl
        try simp only [Act.put, List.getElem_toArray, List.getElem_cons_zero, List.getElem_cons_succ, List.setIfInBounds_toArray, List.set_cons_zero, List.set_cons_succ]
        refine wpAnyH_take (i := 11) (v := ?_) rfl (by kernel_rfl) (by kernel_rfl) (by kernel_rfl) (fun _ _ _ h => h) (Or.inl ⟨by rfl, ?_⟩) (by assumption) ?_
        rotate_left 1
        · intro w9 hSw; (try dsimp only at hSw); go_simp; try with_reducible rfl
        try simp only [Act.put, List.getElem_toArray, List.getElem_cons_zero, List.getElem_cons_succ, List.setIfInBounds_toArray, List.set_cons_zero, List.set_cons_succ]
        refine wpAnyH_take (i := 12) (v := ?_) rfl (by kernel_rfl) (by kernel_rfl) (by kernel_rfl) (fun _ _ _ h => h) (Or.inl ⟨by rfl, ?_⟩) (by assumption) ?_
        rotate_left 1
        · intro w9 hSw; (try dsimp only at hSw); obtain ⟨hs0, hs1⟩ := hSw; have s0 := (blk_cell hs0 0).trans rfl; have s1 := (blk_cell hs0 1).trans rfl; have s2 := (blk_cell hs0 2).trans rfl; have s3 := (blk_cell hs0 3).trans rfl; have s4 := (blk_cell hs0 4).trans rfl; have s5 := (blk_cell hs0 5).trans rfl; have s6 := (blk_cell hs0 6).trans rfl; have s7 := (blk_cell hs0 7).trans rfl; have s8 := (blk_cell hs0 8).trans rfl; clear hs0 hs1; go_simp; try with_reducible rfl
        try simp only [Act.put, List.getElem_toArray, List.getElem_cons_zero, List.getElem_cons_succ, List.setIfInBounds_toArray, List.set_cons_zero, List.set_cons_succ]
        refine wpAnyH_take (i := 13) (v := ?_) rfl (by kernel_rfl) (by kernel_rfl) (by kernel_rfl) (fun _ _ _ h => h) (Or.inl ⟨by rfl, ?_⟩) (by assumption) ?_
        rotate_left 1
        · intro w9 hSw; (try dsimp only at hSw); obtain ⟨hs0, hs1⟩ := hSw; have s0 := (blk_cell hs1 0).trans rfl; have s1 := (blk_cell hs1 1).trans rfl; have s2 := (blk_cell hs1 2).trans rfl; have s3 := (blk_cell hs1 3).trans rfl; have s4 := (blk_cell hs1 4).trans rfl; have s5 := (blk_cell hs1 5).trans rfl; have s6 := (blk_cell hs1 6).trans rfl; have s7 := (blk_cell hs1 7).trans rfl; have s8 := (blk_cell hs1 8).trans rfl; clear hs0 hs1; go_simp; try with_reducible rfl
        try simp only [Act.put, List.getElem_toArray, List.getElem_cons_zero, List.getElem_cons_succ, List.setIfInBounds_toArray, List.set_cons_zero, List.set_cons_succ]
        refine wpAnyH_take (i := 15) (v := ?_) rfl (by kernel_rfl) (by kernel_rfl) (by kernel_rfl) (fun _ _ _ h => h) (Or.inl ⟨by rfl, ?_⟩) (by assumption) ?_
        rotate_left 1
        · intro w9 hSw; (try dsimp only at hSw); obtain ⟨hs0, hs1⟩ := hSw; have s0 := (blk_cell hs0 0).trans rfl; have s1 := (blk_cell hs0 1).trans rfl; have s2 := (blk_cell hs0 2).trans rfl; have s3 := (blk_cell hs0 3).trans rfl; have s4 := (blk_cell hs0 4).trans rfl; have s5 := (blk_cell hs0 5).trans rfl; have s6 := (blk_cell hs0 6).trans rfl; have s7 := (blk_cell hs0 7).trans rfl; have s8 := (blk_cell hs0 8).trans rfl; clear hs0 hs1; go_simp; try with_reducible rfl
        try simp only [Act.put, List.getElem_toArray, List.getElem_cons_zero, List.getElem_cons_succ, List.setIfInBounds_toArray, List.set_cons_zero, List.set_cons_succ]
        refine wpAnyH_take (i := 16) (v := ?_) rfl (by kernel_rfl) (by kernel_rfl) (by kernel_rfl) (fun _ _ _ h => h) (Or.inl ⟨by rfl, ?_⟩) (by assumption) ?_
        rotate_left 1
        · intro w9 hSw; (try dsimp only at hSw); obtain ⟨hs0, hs1⟩ := hSw; have s0 := (blk_cell hs1 0).trans rfl; have s1 := (blk_cell hs1 1).trans rfl; have s2 := (blk_cell hs1 2).trans rfl; have s3 := (blk_cell hs1 3).trans rfl; have s4 := (blk_cell hs1 4).trans rfl; have s5 := (blk_cell hs1 5).trans rfl; have s6 := (blk_cell hs1 6).trans rfl; have s7 := (blk_cell hs1 7).trans rfl; have s8 := (blk_cell hs1 8).trans rfl; clear hs0 hs1; go_simp; try with_reducible rfl
        try simp only [Act.put, List.getElem_toArray, List.getElem_cons_zero, List.getElem_cons_succ, List.setIfInBounds_toArray, List.set_cons_zero, List.set_cons_succ]
        refine wpAnyH_ready (rs := [14]) (by kernel_rfl) (by simp) ?_
        refine AllReadyH.cons rfl (fun K hK => ?_) ?_
        · go_simp
          refine (wsame_any ⟨x0, x1, x2, x3, x4, x5, x6, x7, lx⟩ ⟨y0, y1, y2, y3, y4, y5, y6, y7, ly⟩ A0 A1 n0 n1 c0 c1 _ (Kd.C_below HW.out.2.2.1 (reach_to' HQ.out.2.2 HQ.out.2.2.size hkc)) (Kd.C_below HW.out.2.2.2 (reach_to' HQ.out.2.2 HQ.out.2.2.size hkc)) (by rw [HW.out.2.2.1.1]; omega)).mono ?_
          rintro e ud ⟨rfl, hbd⟩
          have hkd : Below u.heap.size u ud := reach_to' hkc hkc.size hbd
          rw [← HV.out.2.2]
          clear hbd
          refine hK.out _ _ ?_ (fun hHeld => ?_)
          · (refine (fun hK : Below u.heap.size u _ => ⟨blk_below HQ.out.1 hK, blk_below HQ.out.2.1 hK⟩) ?_; (first | assumption | exact Below.refl _ _ | (refine below_drew ?_; first | assumption | exact Below.refl _ _)))
          clear hK K
          try simp only [Act.put, List.getElem_toArray, List.getElem_cons_zero, List.getElem_cons_succ, List.setIfInBounds_toArray, List.set_cons_zero, List.set_cons_succ]
          refine wpAnyH_ready (rs := [17]) (by kernel_rfl) (by simp) ?_
          refine AllReadyH.cons rfl (fun K hK => ?_) ?_
          · go_simp
            refine (smsg_any ⟨x0, x1, x2, x3, x4, x5, x6, x7, lx⟩ ⟨y0, y1, y2, y3, y4, y5, y6, y7, ly⟩ A0 A1 n0 n1 c0 c1 _ (Kd.C_below HW.out.2.2.1 (reach_to' HQ.out.2.2 HQ.out.2.2.size hkd)) (Kd.C_below HW.out.2.2.2 (reach_to' HQ.out.2.2 HQ.out.2.2.size hkd)) (by rw [HW.out.2.2.1.1]; omega)).mono ?_
            rintro e ue ⟨rfl, hbe⟩
            have hke : Below u.heap.size u ue := reach_to' hkd hkd.size hbe
            rw [← HV.out.2.2]
            clear hbe
            refine hK.out _ _ ?_ (fun hHeld => ?_)
            · (refine (fun hK : Below u.heap.size u _ => ⟨blk_below HQ.out.1 hK, blk_below HQ.out.2.1 hK⟩) ?_; (first | assumption | exact Below.refl _ _ | (refine below_drew ?_; first | assumption | exact Below.refl _ _)))
            clear hK K
            try simp only [Act.put, List.getElem_toArray, List.getElem_cons_zero, List.getElem_cons_succ, List.setIfInBounds_toArray, List.set_cons_zero, List.set_cons_succ]
            refine wpAnyH_take (i := 18) (v := ?_) rfl (by kernel_rfl) (by kernel_rfl) (by kernel_rfl) (fun _ _ _ h => h) (Or.inl ⟨by rfl, ?_⟩) (by assumption) ?_
            rotate_left 1
            · intro w9 hSw; (try dsimp only at hSw); go_simp; try with_reducible rfl
            try simp only [Act.put, List.getElem_toArray, List.getElem_cons_zero, List.getElem_cons_succ, List.setIfInBounds_toArray, List.set_cons_zero, List.set_cons_succ]
            refine wpAnyH_take (i := 19) (v := ?_) rfl (by kernel_rfl) (by kernel_rfl) (by kernel_rfl) (fun _ _ _ h => h) (Or.inl ⟨by rfl, ?_⟩) (by assumption) ?_
            rotate_left 1
            · intro w9 hSw; (try dsimp only at hSw); go_simp; try with_reducible rfl
            try simp only [Act.put, List.getElem_toArray, List.getElem_cons_zero, List.getElem_cons_succ, List.setIfInBounds_toArray, List.set_cons_zero, List.set_cons_succ]
            refine wpAnyH_done (by kernel_rfl) ?_ _
            have H3 := Aside0.mk (Kd.C_below H3.out hke)
            have hb := hke
            have HQ := Aside0.mk (And.intro (blk_below HQ.out.1 hb) (And.intro (blk_below HQ.out.2.1 hb) (reach_to' HQ.out.2.2 HQ.out.2.2.size hb)))
            clear hb hka hkb hkc hkd hke hHeld
            have p0 := (blk_cell HQ.out.1 0).trans rfl
            have p1 := (blk_cell HQ.out.1 1).trans rfl
            have p2 := (blk_cell HQ.out.1 2).trans rfl
            have p3 := (blk_cell HQ.out.1 3).trans rfl
            have p4 := (blk_cell HQ.out.1 4).trans rfl
            have p5 := (blk_cell HQ.out.1 5).trans rfl
            have p6 := (blk_cell HQ.out.1 6).trans rfl
            have p7 := (blk_cell HQ.out.1 7).trans rfl
            have p8 := (blk_cell HQ.out.1 8).trans rfl
            have q0 := (blk_cell HQ.out.2.1 0).trans rfl
            have q1 := (blk_cell HQ.out.2.1 1).trans rfl
            have q2 := (blk_cell HQ.out.2.1 2).trans rfl
            have q3 := (blk_cell HQ.out.2.1 3).trans rfl
            have q4 := (blk_cell HQ.out.2.1 4).trans rfl
            have q5 := (blk_cell HQ.out.2.1 5).trans rfl
            have q6 := (blk_cell HQ.out.2.1 6).trans rfl
            have q7 := (blk_cell HQ.out.2.1 7).trans rfl
            have q8 := (blk_cell HQ.out.2.1 8).trans rfl
            obtain rfl : z = 0 := by rw [HV.out.2.1, HN.out.1]; rfl
            go_wp2_with fail
            refine (refmsg_any ⟨x0, x1, x2, x3, x4, x5, x6, x7, lx⟩ A0 n0 c0 _ HW.out.2.1 (Kd.C_below HW.out.2.2.1 HQ.out.2.2) HN.out.2.1 HN.out.2.2.2 HN.out.2.2.1).mono ?_
            rintro e w7 ⟨v5, rfl, hR5, hb⟩
            obtain ⟨A5, c5, rfl, hle5, hC5⟩ := Kd.R_reads hR5
            generalize hN5 : (msgL ⟨x0, x1, x2, x3, x4, x5, x6, x7, lx⟩).length = n5 at *
            have H35 := Aside0.mk (And.intro (Kd.C_below H3.out hb) hC5)
            clear hC5 hle5 hR5 hN5
            have HQ := Aside0.mk (And.intro (blk_below HQ.out.1 hb) (And.intro (blk_below HQ.out.2.1 hb) (reach_to' HQ.out.2.2 HQ.out.2.2.size hb)))
            clear hb
            clear p0 p1 p2 p3 p4 p5 p6 p7 p8 q0 q1 q2 q3 q4 q5 q6 q7 q8
            have p0 := (blk_cell HQ.out.1 0).trans rfl
            have p1 := (blk_cell HQ.out.1 1).trans rfl
            have p2 := (blk_cell HQ.out.1 2).trans rfl
            have p3 := (blk_cell HQ.out.1 3).trans rfl
            have p4 := (blk_cell HQ.out.1 4).trans rfl
            have p5 := (blk_cell HQ.out.1 5).trans rfl
            have p6 := (blk_cell HQ.out.1 6).trans rfl
            have p7 := (blk_cell HQ.out.1 7).trans rfl
            have p8 := (blk_cell HQ.out.1 8).trans rfl
            have q0 := (blk_cell HQ.out.2.1 0).trans rfl
            have q1 := (blk_cell HQ.out.2.1 1).trans rfl
            have q2 := (blk_cell HQ.out.2.1 2).trans rfl
            have q3 := (blk_cell HQ.out.2.1 3).trans rfl
            have q4 := (blk_cell HQ.out.2.1 4).trans rfl
            have q5 := (blk_cell HQ.out.2.1 5).trans rfl
            have q6 := (blk_cell HQ.out.2.1 6).trans rfl
            have q7 := (blk_cell HQ.out.2.1 7).trans rfl
            have q8 := (blk_cell HQ.out.2.1 8).trans rfl
            go_wp2_with fail
            refine (same_any A3 A5 _ _ c3 c5 (msgL ⟨x0, x1, x2, x3, x4, x5, x6, x7, lx⟩) (msgL ⟨x0, x1, x2, x3, x4, x5, x6, x7, lx⟩) _ H35.out.1 H35.out.2 (msgL_small _ HN.out.2.1 HN.out.2.2.1)).mono ?_
            rintro e w8 ⟨rfl, hD8⟩
            rw [decide_eq_true rfl]
            have hb : Below w7.heap.size w7 w8 := by obtain ⟨m8, rfl⟩ := hD8; exact pw_below_drewN (Below.refl _ _) _
            clear hD8
            have HQ := Aside0.mk (And.intro (blk_below HQ.out.1 hb) (And.intro (blk_below HQ.out.2.1 hb) (reach_to' HQ.out.2.2 HQ.out.2.2.size hb)))
            clear hb
            clear p0 p1 p2 p3 p4 p5 p6 p7 p8 q0 q1 q2 q3 q4 q5 q6 q7 q8
            have p0 := (blk_cell HQ.out.1 0).trans rfl
            have p1 := (blk_cell HQ.out.1 1).trans rfl
            have p2 := (blk_cell HQ.out.1 2).trans rfl
            have p3 := (blk_cell HQ.out.1 3).trans rfl
            have p4 := (blk_cell HQ.out.1 4).trans rfl
            have p5 := (blk_cell HQ.out.1 5).trans rfl
            have p6 := (blk_cell HQ.out.1 6).trans rfl
            have p7 := (blk_cell HQ.out.1 7).trans rfl
            have p8 := (blk_cell HQ.out.1 8).trans rfl
            have q0 := (blk_cell HQ.out.2.1 0).trans rfl
            have q1 := (blk_cell HQ.out.2.1 1).trans rfl
            have q2 := (blk_cell HQ.out.2.1 2).trans rfl
            have q3 := (blk_cell HQ.out.2.1 3).trans rfl
            have q4 := (blk_cell HQ.out.2.1 4).trans rfl
            have q5 := (blk_cell HQ.out.2.1 5).trans rfl
            have q6 := (blk_cell HQ.out.2.1 6).trans rfl
            have q7 := (blk_cell HQ.out.2.1 7).trans rfl
            have q8 := (blk_cell HQ.out.2.1 8).trans rfl
            go_wp2_with fail
            clear p0 p1 p2 p3 p4 p5 p6 p7 p8 q0 q1 q2 q3 q4 q5 q6 q7 q8
            refine (read_any E A n c l _ ((HW.out.1.below HQ.out.2.2).sub read_ord) (Kd.C_below HB.out.1 HQ.out.2.2) HB.out.2.1 HB.out.2.2.1 HL.out).mono ?_
            rintro e w9 ⟨A6, n6, c6, rfl, hC6, hb⟩
            rw [HB.out.2.2.2.1] at hC6 ⊢
            simp only [Msg.cells] at hC6 ⊢
            obtain ⟨fv, hfv⟩ : ∃ fv, fv = errV E x := ⟨_, rfl⟩
            rw [← hfv]
            have hB9 := reach_to' HQ.out.2.2 HQ.out.2.2.size hb
            obtain ⟨W6, hW6⟩ : ∃ W6, W6 = w9.alloc (.cells #[.int .i64 u0, .int .u32 u1, .int .u32 u2, .int .u32 u3, .int .u32 u4, .int .i64 u5, .int .i64 u6, .bool u7, .slice A6 n6 c6] 56) := ⟨_, rfl⟩
            have hb6 : Below w9.heap.size w9 W6 := by rw [hW6]; exact below_alloc (Below.refl _ _) _
            have hg6 : W6.heap[w9.heap.size]? = some (.cells #[.int .i64 u0, .int .u32 u1, .int .u32 u2, .int .u32 u3, .int .u32 u4, .int .i64 u5, .int .i64 u6, .bool u7, .slice A6 n6 c6] 56 (0, 0)) := by rw [hW6]; exact heap_alloc_new _ _
            have H6 := Aside0.mk (And.intro (reach_to' hB9 hB9.size hb6) (And.intro (Kd.C_below hC6 hb6) hg6))
            have HX6 := Aside0.mk hW6
            have HFV := Aside0.mk hfv
            clear hb hC6 hB9 hW6 hb6 hg6 hfv
            go_wp2_with fail
            rw [← HX6.out]
            obtain ⟨g6, hg6⟩ : ∃ g6, g6 = w9.heap.size := ⟨_, rfl⟩
            rw [← hg6]
            have H6 := Aside0.mk (And.intro H6.out.1 (And.intro H6.out.2.1 (show W6.heap[g6]? = some (.cells #[.int .i64 u0, .int .u32 u1, .int .u32 u2, .int .u32 u3, .int .u32 u4, .int .i64 u5, .int .i64 u6, .bool u7, .slice A6 n6 c6] 56 (0, 0)) from hg6 ▸ H6.out.2.2)))
            clear HX6 hg6
            refine (refRead_msg A n c l _ (Kd.C_below HB.out.1 H6.out.1) HB.out.2.1 HL.out).mono ?_
            rintro e w10 ⟨A7, n7, c7, rfl, hC7, hb⟩
            rw [HB.out.2.2.2.1] at hC7 ⊢
            simp only [Msg.cells] at hC7 ⊢
            obtain ⟨zx, hzx⟩ : ∃ zx, zx = codeOf x := ⟨_, rfl⟩
            rw [← hzx]
            have hB10 := reach_to' H6.out.1 H6.out.1.size hb
            obtain ⟨W7, hW7⟩ : ∃ W7, W7 = w10.alloc (.cells #[.int .i64 u0, .int .u32 u1, .int .u32 u2, .int .u32 u3, .int .u32 u4, .int .i64 u5, .int .i64 u6, .bool u7, .slice A7 n7 c7] 56) := ⟨_, rfl⟩
            have hb7 : Below w10.heap.size w10 W7 := by rw [hW7]; exact below_alloc (Below.refl _ _) _
            have hg7 : W7.heap[w10.heap.size]? = some (.cells #[.int .i64 u0, .int .u32 u1, .int .u32 u2, .int .u32 u3, .int .u32 u4, .int .i64 u5, .int .i64 u6, .bool u7, .slice A7 n7 c7] 56 (0, 0)) := by rw [hW7]; exact heap_alloc_new _ _
            have H7 := Aside0.mk (And.intro (reach_to' hB10 hB10.size hb7) (And.intro (Kd.C_below (Kd.C_below H6.out.2.1 hb) hb7) (And.intro (Kd.C_below hC7 hb7) (And.intro (blk_below (blk_below H6.out.2.2 hb) hb7) hg7))))
            have HX7 := Aside0.mk hW7
            have HZX := Aside0.mk hzx
            clear hb hC7 hB10 hW7 hb7 hg7 hzx
            go_wp2_with fail
            rw [← HX7.out]
            obtain ⟨g7, hg7⟩ : ∃ g7, g7 = w10.heap.size := ⟨_, rfl⟩
            rw [← hg7]
            have hg7' : W7.heap[g7]? = some (.cells #[.int .i64 u0, .int .u32 u1, .int .u32 u2, .int .u32 u3, .int .u32 u4, .int .i64 u5, .int .i64 u6, .bool u7, .slice A7 n7 c7] 56 (0, 0)) := hg7 ▸ H7.out.2.2.2.2
            clear HX7 hg7
            refine (is_code E x fv zx HFV.out HZX.out HB.out.2.2.2.2.2 _ (HW.out.1.below H7.out.1)).mono ?_
            rintro e w11 ⟨rfl, hb⟩
            have hh6 := blk_below H7.out.2.2.2.1 hb
            have hh7 := blk_below hg7' hb
            have p0 := (blk_cell hh6 0).trans rfl
            have p1 := (blk_cell hh6 1).trans rfl
            have p2 := (blk_cell hh6 2).trans rfl
            have p3 := (blk_cell hh6 3).trans rfl
            have p4 := (blk_cell hh6 4).trans rfl
            have p5 := (blk_cell hh6 5).trans rfl
            have p6 := (blk_cell hh6 6).trans rfl
            have p7 := (blk_cell hh6 7).trans rfl
            have p8 := (blk_cell hh6 8).trans rfl
            have q0 := (blk_cell hh7 0).trans rfl
            have q1 := (blk_cell hh7 1).trans rfl
            have q2 := (blk_cell hh7 2).trans rfl
            have q3 := (blk_cell hh7 3).trans rfl
            have q4 := (blk_cell hh7 4).trans rfl
            have q5 := (blk_cell hh7 5).trans rfl
            have q6 := (blk_cell hh7 6).trans rfl
            have q7 := (blk_cell hh7 7).trans rfl
            have q8 := (blk_cell hh7 8).trans rfl
            have H8 := Aside0.mk (And.intro (reach_to' H7.out.1 H7.out.1.size hb) (And.intro (Kd.C_below H7.out.2.1 hb) (Kd.C_below H7.out.2.2.1 hb)))
            clear hh6 hh7 hb hg7'
            go_wp2_with fail
            refine (smsg_any ⟨u0, u1, u2, u3, u4, u5, u6, u7, lu⟩ ⟨u0, u1, u2, u3, u4, u5, u6, u7, lu⟩ A6 A7 n6 n7 c6 c7 _ H8.out.2.1 H8.out.2.2 (show lu.length ≤ 1000000 by have := HB.out.2.2.2.2.1; omega)).mono ?_
            rintro e w12 ⟨rfl, hb⟩
            rw [decide_eq_true rfl]
            clear p0 p1 p2 p3 p4 p5 p6 p7 p8 q0 q1 q2 q3 q4 q5 q6 q7 q8
            have hB12 := reach_to' H8.out.1 H8.out.1.size hb
            clear hb
            go_wp2
            all_goals go_ret
            all_goals exact ⟨rfl, hB12⟩
          · exact AllReadyH.nil
        · exact AllReadyH.nil
      · exact AllReadyH.nil
    · exact AllReadyH.nil
  · exact AllReadyH.nil
set_option maxHeartbeats 16000000 in
set_option maxRecDepth 100000 in
theorem says_bad (E : Nat → Addr) (x0 x1 x2 x3 x4 x5 x6 : Int) (x7 : Bool) (lx : List Int) (y0 y1 y2 y3 y4 y5 y6 : Int) (y7 : Bool) (ly : List Int) (A0 A1 A : Option Addr) (n0 n1 n c0 c1 c : Nat) (l : List Int) (w : World) (hE : Errs ordE E w) (hw0 : (⟨x0, x1, x2, x3, x4, x5, x6, x7, lx⟩ : Msg).wf) (hw1 : (⟨y0, y1, y2, y3, y4, y5, y6, y7, ly⟩ : Msg).wf) (h0 : Kd.C (Kd.int .u32) w A0 n0 lx) (h1 : Kd.C (Kd.int .u32) w A1 n1 ly) (hC : Kd.C (Kd.int .u8) w A n l) (hby : Byt l) (hle : n ≤ c) (hn : n ≤ 200) (hm0 : n0 ≤ 20) (hm1 : n1 ≤ 20) (k : Nat) (hv : validL ⟨x0, x1, x2, x3, x4, x5, x6, x7, lx⟩ = some k) (u0 u1 u2 u3 u4 u5 u6 : Int) (u7 : Bool) (lu : List Int) (x : Option Nat) (hR : readM l = (⟨u0, u1, u2, u3, u4, u5, u6, u7, lu⟩, x)) (hlu : lu.length ≤ 4) (hxo : ∀ i, x = some i → i ∈ ordE) :
    Calls Tryd.prog 9 #[.agg #[.int .i64 x0, .int .u32 x1, .int .u32 x2, .int .u32 x3, .int .u32 x4, .int .i64 x5, .int .i64 x6, .bool x7, .slice A0 n0 c0], .agg #[.int .i64 y0, .int .u32 y1, .int .u32 y2, .int .u32 y3, .int .u32 y4, .int .i64 y5, .int .i64 y6, .bool y7, .slice A1 n1 c1], .slice A n c] w fun e w' => e = .returned (.bool true) ∧ Below w.heap.size w w' := by
  have hu2 := Tryd.underlying56
  have hu3 := Tryd.underlying53
  obtain ⟨W, hW⟩ : ∃ W, W = (w.alloc (.cells #[.int .i64 x0, .int .u32 x1, .int .u32 x2, .int .u32 x3, .int .u32 x4, .int .i64 x5, .int .i64 x6, .bool x7, .slice A0 n0 c0] 56)).alloc (.cells #[.int .i64 y0, .int .u32 y1, .int .u32 y2, .int .u32 y3, .int .u32 y4, .int .i64 y5, .int .i64 y6, .bool y7, .slice A1 n1 c1] 56) := ⟨_, rfl⟩
  have hb0 : Below w.heap.size w W := by rw [hW]; exact below_alloc (below_alloc (Below.refl _ _) _) _
  have hh : W.heap[w.heap.size]? = some (.cells #[.int .i64 x0, .int .u32 x1, .int .u32 x2, .int .u32 x3, .int .u32 x4, .int .i64 x5, .int .i64 x6, .bool x7, .slice A0 n0 c0] 56 (0, 0)) := by rw [hW]; exact blk_alloc (heap_alloc_new w _) _
  have hk : W.heap[w.heap.size + 1]? = some (.cells #[.int .i64 y0, .int .u32 y1, .int .u32 y2, .int .u32 y3, .int .u32 y4, .int .i64 y5, .int .i64 y6, .bool y7, .slice A1 n1 c1] 56 (0, 0)) := by rw [hW]; exact new_at _ _ _ (by simp)
  have HW := Aside0.mk (And.intro hE (And.intro hw0 (And.intro h0 h1)))
  have HS := Aside0.mk (And.intro hb0 (And.intro hh hk))
  have HX := Aside0.mk hW
  clear hb0 hh hk hW hE hw0 hw1 h0 h1
  have hd : decide (200 < (n : Int)) = false := decide_eq_false (by omega)
  have HB := Aside0.mk (And.intro hC (And.intro hby (And.intro hle (And.intro hR (And.intro hlu hxo)))))
  have hcl := hC.1
  have HL := Aside0.mk (show l.length ≤ 1000000 by omega)
  clear hC hby hle hR hlu hxo hcl
  have HN := Aside0.mk hv
  clear hv
  go_enter Tryd.func9, Tryd.ntmps9
  go_wp2_with fail
  rw [← HX.out]
  obtain ⟨hb0, hh, hk⟩ := HS.out
  obtain ⟨b1, hb1⟩ : ∃ b1, b1 = w.heap.size + 1 := ⟨_, rfl⟩
  obtain ⟨b, hb⟩ : ∃ b, b = w.heap.size := ⟨_, rfl⟩
  rw [← hb1] at hk ⊢
  rw [← hb] at hh ⊢
  clear HX HS hb hb1
  refine (first4_any E W ((HW.out.1.below hb0).sub wire_ord)).mono ?_
  rintro e w2 ⟨rfl, hb2⟩
  have HQ := Aside0.mk (And.intro (blk_below hh hb2) (And.intro (blk_below hk hb2) (reach_to' hb0 hb0.size hb2)))
  clear hb0 hb2 hh hk
  have p0 := (blk_cell HQ.out.1 0).trans rfl
  have p1 := (blk_cell HQ.out.1 1).trans rfl
  have p2 := (blk_cell HQ.out.1 2).trans rfl
  have p3 := (blk_cell HQ.out.1 3).trans rfl
  have p4 := (blk_cell HQ.out.1 4).trans rfl
  have p5 := (blk_cell HQ.out.1 5).trans rfl
  have p6 := (blk_cell HQ.out.1 6).trans rfl
  have p7 := (blk_cell HQ.out.1 7).trans rfl
  have p8 := (blk_cell HQ.out.1 8).trans rfl
  have q0 := (blk_cell HQ.out.2.1 0).trans rfl
  have q1 := (blk_cell HQ.out.2.1 1).trans rfl
  have q2 := (blk_cell HQ.out.2.1 2).trans rfl
  have q3 := (blk_cell HQ.out.2.1 3).trans rfl
  have q4 := (blk_cell HQ.out.2.1 4).trans rfl
  have q5 := (blk_cell HQ.out.2.1 5).trans rfl
  have q6 := (blk_cell HQ.out.2.1 6).trans rfl
  have q7 := (blk_cell HQ.out.2.1 7).trans rfl
  have q8 := (blk_cell HQ.out.2.1 8).trans rfl
  go_wp2_with fail
  refine (light_any ⟨x0, x1, x2, x3, x4, x5, x6, x7, lx⟩ A0 n0 c0 _).mono ?_
  rintro e w3 ⟨rfl, hb⟩
  rw [show decide ((n0 : Int) ≤ 20) = true from decide_eq_true (by omega)]
  have HQ := Aside0.mk (And.intro (blk_below HQ.out.1 hb) (And.intro (blk_below HQ.out.2.1 hb) (reach_to' HQ.out.2.2 HQ.out.2.2.size hb)))
  clear hb
  clear p0 p1 p2 p3 p4 p5 p6 p7 p8 q0 q1 q2 q3 q4 q5 q6 q7 q8
  have p0 := (blk_cell HQ.out.1 0).trans rfl
  have p1 := (blk_cell HQ.out.1 1).trans rfl
  have p2 := (blk_cell HQ.out.1 2).trans rfl
  have p3 := (blk_cell HQ.out.1 3).trans rfl
  have p4 := (blk_cell HQ.out.1 4).trans rfl
  have p5 := (blk_cell HQ.out.1 5).trans rfl
  have p6 := (blk_cell HQ.out.1 6).trans rfl
  have p7 := (blk_cell HQ.out.1 7).trans rfl
  have p8 := (blk_cell HQ.out.1 8).trans rfl
  have q0 := (blk_cell HQ.out.2.1 0).trans rfl
  have q1 := (blk_cell HQ.out.2.1 1).trans rfl
  have q2 := (blk_cell HQ.out.2.1 2).trans rfl
  have q3 := (blk_cell HQ.out.2.1 3).trans rfl
  have q4 := (blk_cell HQ.out.2.1 4).trans rfl
  have q5 := (blk_cell HQ.out.2.1 5).trans rfl
  have q6 := (blk_cell HQ.out.2.1 6).trans rfl
  have q7 := (blk_cell HQ.out.2.1 7).trans rfl
  have q8 := (blk_cell HQ.out.2.1 8).trans rfl
  go_wp2_with fail
  refine (light_any ⟨y0, y1, y2, y3, y4, y5, y6, y7, ly⟩ A1 n1 c1 _).mono ?_
  rintro e w3 ⟨rfl, hb⟩
  rw [show decide ((n1 : Int) ≤ 20) = true from decide_eq_true (by omega)]
  have HQ := Aside0.mk (And.intro (blk_below HQ.out.1 hb) (And.intro (blk_below HQ.out.2.1 hb) (reach_to' HQ.out.2.2 HQ.out.2.2.size hb)))
  clear hb
  clear p0 p1 p2 p3 p4 p5 p6 p7 p8 q0 q1 q2 q3 q4 q5 q6 q7 q8
  have p0 := (blk_cell HQ.out.1 0).trans rfl
  have p1 := (blk_cell HQ.out.1 1).trans rfl
  have p2 := (blk_cell HQ.out.1 2).trans rfl
  have p3 := (blk_cell HQ.out.1 3).trans rfl
  have p4 := (blk_cell HQ.out.1 4).trans rfl
  have p5 := (blk_cell HQ.out.1 5).trans rfl
  have p6 := (blk_cell HQ.out.1 6).trans rfl
  have p7 := (blk_cell HQ.out.1 7).trans rfl
  have p8 := (blk_cell HQ.out.1 8).trans rfl
  have q0 := (blk_cell HQ.out.2.1 0).trans rfl
  have q1 := (blk_cell HQ.out.2.1 1).trans rfl
  have q2 := (blk_cell HQ.out.2.1 2).trans rfl
  have q3 := (blk_cell HQ.out.2.1 3).trans rfl
  have q4 := (blk_cell HQ.out.2.1 4).trans rfl
  have q5 := (blk_cell HQ.out.2.1 5).trans rfl
  have q6 := (blk_cell HQ.out.2.1 6).trans rfl
  have q7 := (blk_cell HQ.out.2.1 7).trans rfl
  have q8 := (blk_cell HQ.out.2.1 8).trans rfl
  go_wp2_with fail
  obtain ⟨z, hz⟩ : ∃ z, z = codeOf (validL ⟨x0, x1, x2, x3, x4, x5, x6, x7, lx⟩) := ⟨_, rfl⟩
  obtain ⟨ev, hev⟩ : ∃ ev, ev = errV E (validL ⟨x0, x1, x2, x3, x4, x5, x6, x7, lx⟩) := ⟨_, rfl⟩
  obtain ⟨sb, hsb⟩ : ∃ sb, sb = decide ((⟨x0, x1, x2, x3, x4, x5, x6, x7, lx⟩ : Msg) = ⟨y0, y1, y2, y3, y4, y5, y6, y7, ly⟩) := ⟨_, rfl⟩
  refine (rvalid_any ⟨x0, x1, x2, x3, x4, x5, x6, x7, lx⟩ A0 n0 c0 _ HW.out.2.1 (Kd.C_below HW.out.2.2.1 HQ.out.2.2)).mono ?_
  rintro e w4 ⟨rfl, hb⟩
  rw [← hz]
  have HQ := Aside0.mk (And.intro (blk_below HQ.out.1 hb) (And.intro (blk_below HQ.out.2.1 hb) (reach_to' HQ.out.2.2 HQ.out.2.2.size hb)))
  clear hb
  clear p0 p1 p2 p3 p4 p5 p6 p7 p8 q0 q1 q2 q3 q4 q5 q6 q7 q8
  have p0 := (blk_cell HQ.out.1 0).trans rfl
  have p1 := (blk_cell HQ.out.1 1).trans rfl
  have p2 := (blk_cell HQ.out.1 2).trans rfl
  have p3 := (blk_cell HQ.out.1 3).trans rfl
  have p4 := (blk_cell HQ.out.1 4).trans rfl
  have p5 := (blk_cell HQ.out.1 5).trans rfl
  have p6 := (blk_cell HQ.out.1 6).trans rfl
  have p7 := (blk_cell HQ.out.1 7).trans rfl
  have p8 := (blk_cell HQ.out.1 8).trans rfl
  have q0 := (blk_cell HQ.out.2.1 0).trans rfl
  have q1 := (blk_cell HQ.out.2.1 1).trans rfl
  have q2 := (blk_cell HQ.out.2.1 2).trans rfl
  have q3 := (blk_cell HQ.out.2.1 3).trans rfl
  have q4 := (blk_cell HQ.out.2.1 4).trans rfl
  have q5 := (blk_cell HQ.out.2.1 5).trans rfl
  have q6 := (blk_cell HQ.out.2.1 6).trans rfl
  have q7 := (blk_cell HQ.out.2.1 7).trans rfl
  have q8 := (blk_cell HQ.out.2.1 8).trans rfl
  have HV := Aside0.mk (And.intro hev (And.intro hz hsb))
  clear hz hev hsb
  go_wp2_with fail
  refine (wbytes_any E ⟨x0, x1, x2, x3, x4, x5, x6, x7, lx⟩ A0 n0 c0 _ ((HW.out.1.below HQ.out.2.2).sub wire_ord) HW.out.2.1 (Kd.C_below HW.out.2.2.1 HQ.out.2.2)).mono ?_
  rintro e u ⟨v3, rfl, hR3, hb⟩
  rw [← HV.out.1]
  obtain ⟨A3, c3, rfl, hle3, hC3⟩ := Kd.R_reads hR3
  have hwb : wbL ⟨x0, x1, x2, x3, x4, x5, x6, x7, lx⟩ = [] := by unfold wbL; rw [HN.out, if_neg (by simp)]
  rw [hwb] at hC3 ⊢
  simp only [List.length_nil] at hC3 ⊢
  have H3 := Aside0.mk hC3
  clear hC3 hle3 hR3 hwb
  have HQ := Aside0.mk (And.intro (blk_below HQ.out.1 hb) (And.intro (blk_below HQ.out.2.1 hb) (reach_to' HQ.out.2.2 HQ.out.2.2.size hb)))
  clear hb
  clear p0 p1 p2 p3 p4 p5 p6 p7 p8 q0 q1 q2 q3 q4 q5 q6 q7 q8
  have p0 := (blk_cell HQ.out.1 0).trans rfl
  have p1 := (blk_cell HQ.out.1 1).trans rfl
  have p2 := (blk_cell HQ.out.1 2).trans rfl
  have p3 := (blk_cell HQ.out.1 3).trans rfl
  have p4 := (blk_cell HQ.out.1 4).trans rfl
  have p5 := (blk_cell HQ.out.1 5).trans rfl
  have p6 := (blk_cell HQ.out.1 6).trans rfl
  have p7 := (blk_cell HQ.out.1 7).trans rfl
  have p8 := (blk_cell HQ.out.1 8).trans rfl
  have q0 := (blk_cell HQ.out.2.1 0).trans rfl
  have q1 := (blk_cell HQ.out.2.1 1).trans rfl
  have q2 := (blk_cell HQ.out.2.1 2).trans rfl
  have q3 := (blk_cell HQ.out.2.1 3).trans rfl
  have q4 := (blk_cell HQ.out.2.1 4).trans rfl
  have q5 := (blk_cell HQ.out.2.1 5).trans rfl
  have q6 := (blk_cell HQ.out.2.1 6).trans rfl
  have q7 := (blk_cell HQ.out.2.1 7).trans rfl
  have q8 := (blk_cell HQ.out.2.1 8).trans rfl
  go_wp2_with fail
  clear p0 p1 p2 p3 p4 p5 p6 p7 p8 q0 q1 q2 q3 q4 q5 q6 q7 q8
  refine wp_region_held_drew (S := (fun w' => w'.heap[b]? = some (.cells #[.int .i64 x0, .int .u32 x1, .int .u32 x2, .int .u32 x3, .int .u32 x4, .int .i64 x5, .int .i64 x6, .bool x7, .slice A0 n0 c0] 56 (0, 0)) ∧ w'.heap[b1]? = some (.cells #[.int .i64 y0, .int .u32 y1, .int .u32 y2, .int .u32 y3, .int .u32 y4, .int .i64 y5, .int .i64 y6, .bool y7, .slice A1 n1 c1] 56 (0, 0)))) (by kernel_rfl) ?_ (fun hHeld => ?_)
  · (refine (fun hK : Below u.heap.size u _ => ⟨blk_below HQ.out.1 hK, blk_below HQ.out.2.1 hK⟩) ?_; (first | assumption | exact Below.refl _ _ | (refine below_drew ?_; first | assumption | exact Below.refl _ _)))
  refine wpAnyH_take (i := 0) (v := ?_) rfl (by kernel_rfl) (by kernel_rfl) (by kernel_rfl) (fun _ _ _ h => h) (Or.inl ⟨by rfl, ?_⟩) (by assumption) ?_
  rotate_left 1
  · intro w9 hSw; (try dsimp only at hSw); obtain ⟨hs0, hs1⟩ := hSw; have s0 := (blk_cell hs0 0).trans rfl; have s1 := (blk_cell hs0 1).trans rfl; have s2 := (blk_cell hs0 2).trans rfl; have s3 := (blk_cell hs0 3).trans rfl; have s4 := (blk_cell hs0 4).trans rfl; have s5 := (blk_cell hs0 5).trans rfl; have s6 := (blk_cell hs0 6).trans rfl; have s7 := (blk_cell hs0 7).trans rfl; have s8 := (blk_cell hs0 8).trans rfl; clear hs0 hs1; go_simp; try with_reducible rfl
  try simp only [Act.put, List.getElem_toArray, List.getElem_cons_zero, List.getElem_cons_succ, List.setIfInBounds_toArray, List.set_cons_zero, List.set_cons_succ]
  refine wpAnyH_take (i := 2) (v := ?_) rfl (by kernel_rfl) (by kernel_rfl) (by kernel_rfl) (fun _ _ _ h => h) (Or.inl ⟨by rfl, ?_⟩) (by assumption) ?_
  rotate_left 1
  · intro w9 hSw; (try dsimp only at hSw); go_simp; try with_reducible rfl
  try simp only [Act.put, List.getElem_toArray, List.getElem_cons_zero, List.getElem_cons_succ, List.setIfInBounds_toArray, List.set_cons_zero, List.set_cons_succ]
  refine wpAnyH_ready (rs := [1]) (by kernel_rfl) (by simp) ?_
  refine AllReadyH.cons rfl (fun K hK => ?_) ?_
  · go_simp
    refine (valid_any E ⟨x0, x1, x2, x3, x4, x5, x6, x7, lx⟩ A0 n0 c0 _ ((HW.out.1.below (below_drew HQ.out.2.2)).sub wire_ord) HW.out.2.1 (Kd.C_below HW.out.2.2.1 (below_drew HQ.out.2.2))).mono ?_
    rintro e ua ⟨rfl, hba⟩
    have hka : Below u.heap.size u ua := reach_to' (below_drew (Below.refl _ _)) (Nat.le_refl _) hba
    rw [← HV.out.1]
    clear hba
    refine hK.out _ _ ?_ (fun hHeld => ?_)
    · (refine (fun hK : Below u.heap.size u _ => ⟨blk_below HQ.out.1 hK, blk_below HQ.out.2.1 hK⟩) ?_; (first | assumption | exact Below.refl _ _ | (refine below_drew ?_; first | assumption | exact Below.refl _ _)))
    clear hK K
    try simp only [Act.put, List.getElem_toArray, List.getElem_cons_zero, List.getElem_cons_succ, List.setIfInBounds_toArray, List.set_cons_zero, List.set_cons_succ]
    refine wpAnyH_ready (rs := [3]) (by kernel_rfl) (by simp) ?_
    refine AllReadyH.cons rfl (fun K hK => ?_) ?_
    · go_simp
      refine (is_code E (validL ⟨x0, x1, x2, x3, x4, x5, x6, x7, lx⟩) ev z HV.out.1 HV.out.2.1 (validL_ord _) _ (HW.out.1.below (reach_to' HQ.out.2.2 HQ.out.2.2.size hka))).mono ?_
      rintro e ub ⟨rfl, hbb⟩
      have hkb : Below u.heap.size u ub := reach_to' hka hka.size hbb
      clear hbb
      refine hK.out _ _ ?_ (fun hHeld => ?_)
      · (refine (fun hK : Below u.heap.size u _ => ⟨blk_below HQ.out.1 hK, blk_below HQ.out.2.1 hK⟩) ?_; (first | assumption | exact Below.refl _ _ | (refine below_drew ?_; first | assumption | exact Below.refl _ _)))
      clear hK K
      try simp only [Act.put, List.getElem_toArray, List.getElem_cons_zero, List.getElem_cons_succ, List.setIfInBounds_toArray, List.set_cons_zero, List.set_cons_succ]
      refine wpAnyH_take (i := 4) (v := ?_) rfl (by kernel_rfl) (by kernel_rfl) (by kernel_rfl) (fun _ _ _ h => h) (Or.inl ⟨by rfl, ?_⟩) (by assumption) ?_
      rotate_left 1
      · intro w9 hSw; (try dsimp only at hSw); go_simp; try with_reducible rfl
      try simp only [Act.put, List.getElem_toArray, List.getElem_cons_zero, List.getElem_cons_succ, List.setIfInBounds_toArray, List.set_cons_zero, List.set_cons_succ]
      refine wpAnyH_take (i := 5) (v := ?_) rfl (by kernel_rfl) (by kernel_rfl) (by kernel_rfl) (fun _ _ _ h => h) (Or.inl ⟨by rfl, ?_⟩) (by assumption) ?_
      rotate_left 1
      · intro w9 hSw; (try dsimp only at hSw); go_simp; try with_reducible rfl
      try simp only [Act.put, List.getElem_toArray, List.getElem_cons_zero, List.getElem_cons_succ, List.setIfInBounds_toArray, List.set_cons_zero, List.set_cons_succ]
      refine wpAnyH_take (i := 6) (v := ?_) rfl (by kernel_rfl) (by kernel_rfl) (by kernel_rfl) (fun _ _ _ h => h) (Or.inl ⟨by rfl, ?_⟩) (by assumption) ?_
      rotate_left 1
      · intro w9 hSw; (try dsimp only at hSw); go_simp; try with_reducible rfl
      try simp only [Act.put, List.getElem_toArray, List.getElem_cons_zero, List.getElem_cons_succ, List.setIfInBounds_toArray, List.set_cons_zero, List.set_cons_succ]
      refine wpAnyH_take (i := 7) (v := ?_) rfl (by kernel_rfl) (by kernel_rfl) (by kernel_rfl) (fun _ _ _ h => h) (Or.inl ⟨by rfl, ?_⟩) (by assumption) ?_
      rotate_left 1
      · intro w9 hSw; (try dsimp only at hSw); go_simp; try with_reducible rfl
      try simp only [Act.put, List.getElem_toArray, List.getElem_cons_zero, List.getElem_cons_succ, List.setIfInBounds_toArray, List.set_cons_zero, List.set_cons_succ]
      refine wpAnyH_ready (rs := [8]) (by kernel_rfl) (by simp) ?_
      refine AllReadyH.cons rfl (fun K hK => ?_) ?_
      · go_simp
        refine (is_code E (validL ⟨x0, x1, x2, x3, x4, x5, x6, x7, lx⟩) ev z HV.out.1 HV.out.2.1 (validL_ord _) _ (HW.out.1.below (reach_to' HQ.out.2.2 HQ.out.2.2.size hkb))).mono ?_
        rintro e uc ⟨rfl, hbc⟩
        have hkc : Below u.heap.size u uc := reach_to' hkb hkb.size hbc
        clear hbc
        refine hK.out _ _ ?_ (fun hHeld => ?_)
        · (refine (fun hK : Below u.heap.size u _ => ⟨blk_below HQ.out.1 hK, blk_below HQ.out.2.1 hK⟩) ?_; (first | assumption | exact Below.refl _ _ | (refine below_drew ?_; first | assumption | exact Below.refl _ _)))
        clear hK K
        try simp only [Act.put, List.getElem_toArray, List.getElem_cons_zero, List.getElem_cons_succ, List.setIfInBounds_toArray, List.set_cons_zero, List.set_cons_succ]
        refine wpAnyH_take (i := 9) (v := ?_) rfl (by kernel_rfl) (by kernel_rfl) (by kernel_rfl) (fun _ _ _ h => h) (Or.inl ⟨by rfl, ?_⟩) (by assumption) ?_
        rotate_left 1
        · intro w9 hSw; (try dsimp only at hSw); go_simp; try with_reducible rfl
        try simp only [Act.put, List.getElem_toArray, List.getElem_cons_zero, List.getElem_cons_succ, List.setIfInBounds_toArray, List.set_cons_zero, List.set_cons_succ]
        refine wpAnyH_take (i := 10) (v := ?_) rfl (by kernel_rfl) (by kernel_rfl) (by kernel_rfl) (fun _ _ _ h => h) (Or.inl ⟨by rfl, ?_⟩) (by assumption) ?_
        rotate_left 1
        · intro w9 hSw; (try dsimp only at hSw); go_simp; try with_reducible rfl
        try simp only [Act.put, List.getElem_toArray, List.getElem_cons_zero, List.getElem_cons_succ, List.setIfInBounds_toArray, List.set_cons_zero, List.set_cons_succ]
        refine wpAnyH_take (i := 11) (v := ?_) rfl (by kernel_rfl) (by kernel_rfl) (by kernel_rfl) (fun _ _ _ h => h) (Or.inl ⟨by rfl, ?_⟩) (by assumption) ?_
        rotate_left 1
        · intro w9 hSw; (try dsimp only at hSw); go_simp; try with_reducible rfl
        try simp only [Act.put, List.getElem_toArray, List.getElem_cons_zero, List.getElem_cons_succ, List.setIfInBounds_toArray, List.set_cons_zero, List.set_cons_succ]
        refine wpAnyH_take (i := 12) (v := ?_) rfl (by kernel_rfl) (by kernel_rfl) (by kernel_rfl) (fun _ _ _ h => h) (Or.inl ⟨by rfl, ?_⟩) (by assumption) ?_
        rotate_left 1
        · intro w9 hSw; (try dsimp only at hSw); obtain ⟨hs0, hs1⟩ := hSw; have s0 := (blk_cell hs0 0).trans rfl; have s1 := (blk_cell hs0 1).trans rfl; have s2 := (blk_cell hs0 2).trans rfl; have s3 := (blk_cell hs0 3).trans rfl; have s4 := (blk_cell hs0 4).trans rfl; have s5 := (blk_cell hs0 5).trans rfl; have s6 := (blk_cell hs0 6).trans rfl; have s7 := (blk_cell hs0 7).trans rfl; have s8 := (blk_cell hs0 8).trans rfl; clear hs0 hs1; go_simp; try with_reducible rfl
        try simp only [Act.put, List.getElem_toArray, List.getElem_cons_zero, List.getElem_cons_succ, List.setIfInBounds_toArray, List.set_cons_zero, List.set_cons_succ]
        refine wpAnyH_take (i := 13) (v := ?_) rfl (by kernel_rfl) (by kernel_rfl) (by kernel_rfl) (fun _ _ _ h => h) (Or.inl ⟨by rfl, ?_⟩) (by assumption) ?_
        rotate_left 1
        · intro w9 hSw; (try dsimp only at hSw); obtain ⟨hs0, hs1⟩ := hSw; have s0 := (blk_cell hs1 0).trans rfl; have s1 := (blk_cell hs1 1).trans rfl; have s2 := (blk_cell hs1 2).trans rfl; have s3 := (blk_cell hs1 3).trans rfl; have s4 := (blk_cell hs1 4).trans rfl; have s5 := (blk_cell hs1 5).trans rfl; have s6 := (blk_cell hs1 6).trans rfl; have s7 := (blk_cell hs1 7).trans rfl; have s8 := (blk_cell hs1 8).trans rfl; clear hs0 hs1; go_simp; try with_reducible rfl
        try simp only [Act.put, List.getElem_toArray, List.getElem_cons_zero, List.getElem_cons_succ, List.setIfInBounds_toArray, List.set_cons_zero, List.set_cons_succ]
        refine wpAnyH_take (i := 15) (v := ?_) rfl (by kernel_rfl) (by kernel_rfl) (by kernel_rfl) (fun _ _ _ h => h) (Or.inl ⟨by rfl, ?_⟩) (by assumption) ?_
        rotate_left 1
        · intro w9 hSw; (try dsimp only at hSw); obtain ⟨hs0, hs1⟩ := hSw; have s0 := (blk_cell hs0 0).trans rfl; have s1 := (blk_cell hs0 1).trans rfl; have s2 := (blk_cell hs0 2).trans rfl; have s3 := (blk_cell hs0 3).trans rfl; have s4 := (blk_cell hs0 4).trans rfl; have s5 := (blk_cell hs0 5).trans rfl; have s6 := (blk_cell hs0 6).trans rfl; have s7 := (blk_cell hs0 7).trans rfl; have s8 := (blk_cell hs0 8).trans rfl; clear hs0 hs1; go_simp; try with_reducible rfl
        try simp only [Act.put, List.getElem_toArray, List.getElem_cons_zero, List.getElem_cons_succ, List.setIfInBounds_toArray, List.set_cons_zero, List.set_cons_succ]
        refine wpAnyH_take (i := 16) (v := ?_) rfl (by kernel_rfl) (by kernel_rfl) (by kernel_rfl) (fun _ _ _ h => h) (Or.inl ⟨by rfl, ?_⟩) (by assumption) ?_
        rotate_left 1
        · intro w9 hSw; (try dsimp only at hSw); obtain ⟨hs0, hs1⟩ := hSw; have s0 := (blk_cell hs1 0).trans rfl; have s1 := (blk_cell hs1 1).trans rfl; have s2 := (blk_cell hs1 2).trans rfl; have s3 := (blk_cell hs1 3).trans rfl; have s4 := (blk_cell hs1 4).trans rfl; have s5 := (blk_cell hs1 5).trans rfl; have s6 := (blk_cell hs1 6).trans rfl; have s7 := (blk_cell hs1 7).trans rfl; have s8 := (blk_cell hs1 8).trans rfl; clear hs0 hs1; go_simp; try with_reducible rfl
        try simp only [Act.put, List.getElem_toArray, List.getElem_cons_zero, List.getElem_cons_succ, List.setIfInBounds_toArray, List.set_cons_zero, List.set_cons_succ]
        refine wpAnyH_ready (rs := [14]) (by kernel_rfl) (by simp) ?_
        refine AllReadyH.cons rfl (fun K hK => ?_) ?_
        · go_simp
          refine (wsame_any ⟨x0, x1, x2, x3, x4, x5, x6, x7, lx⟩ ⟨y0, y1, y2, y3, y4, y5, y6, y7, ly⟩ A0 A1 n0 n1 c0 c1 _ (Kd.C_below HW.out.2.2.1 (reach_to' HQ.out.2.2 HQ.out.2.2.size hkc)) (Kd.C_below HW.out.2.2.2 (reach_to' HQ.out.2.2 HQ.out.2.2.size hkc)) (by rw [HW.out.2.2.1.1]; omega)).mono ?_
          rintro e ud ⟨rfl, hbd⟩
          have hkd : Below u.heap.size u ud := reach_to' hkc hkc.size hbd
          rw [← HV.out.2.2]
          clear hbd
          refine hK.out _ _ ?_ (fun hHeld => ?_)
          · (refine (fun hK : Below u.heap.size u _ => ⟨blk_below HQ.out.1 hK, blk_below HQ.out.2.1 hK⟩) ?_; (first | assumption | exact Below.refl _ _ | (refine below_drew ?_; first | assumption | exact Below.refl _ _)))
          clear hK K
          try simp only [Act.put, List.getElem_toArray, List.getElem_cons_zero, List.getElem_cons_succ, List.setIfInBounds_toArray, List.set_cons_zero, List.set_cons_succ]
          refine wpAnyH_ready (rs := [17]) (by kernel_rfl) (by simp) ?_
          refine AllReadyH.cons rfl (fun K hK => ?_) ?_
          · go_simp
            refine (smsg_any ⟨x0, x1, x2, x3, x4, x5, x6, x7, lx⟩ ⟨y0, y1, y2, y3, y4, y5, y6, y7, ly⟩ A0 A1 n0 n1 c0 c1 _ (Kd.C_below HW.out.2.2.1 (reach_to' HQ.out.2.2 HQ.out.2.2.size hkd)) (Kd.C_below HW.out.2.2.2 (reach_to' HQ.out.2.2 HQ.out.2.2.size hkd)) (by rw [HW.out.2.2.1.1]; omega)).mono ?_
            rintro e ue ⟨rfl, hbe⟩
            have hke : Below u.heap.size u ue := reach_to' hkd hkd.size hbe
            rw [← HV.out.2.2]
            clear hbe
            refine hK.out _ _ ?_ (fun hHeld => ?_)
            · (refine (fun hK : Below u.heap.size u _ => ⟨blk_below HQ.out.1 hK, blk_below HQ.out.2.1 hK⟩) ?_; (first | assumption | exact Below.refl _ _ | (refine below_drew ?_; first | assumption | exact Below.refl _ _)))
            clear hK K
            try simp only [Act.put, List.getElem_toArray, List.getElem_cons_zero, List.getElem_cons_succ, List.setIfInBounds_toArray, List.set_cons_zero, List.set_cons_succ]
            refine wpAnyH_take (i := 18) (v := ?_) rfl (by kernel_rfl) (by kernel_rfl) (by kernel_rfl) (fun _ _ _ h => h) (Or.inl ⟨by rfl, ?_⟩) (by assumption) ?_
            rotate_left 1
            · intro w9 hSw; (try dsimp only at hSw); go_simp; try with_reducible rfl
            try simp only [Act.put, List.getElem_toArray, List.getElem_cons_zero, List.getElem_cons_succ, List.setIfInBounds_toArray, List.set_cons_zero, List.set_cons_succ]
            refine wpAnyH_take (i := 19) (v := ?_) rfl (by kernel_rfl) (by kernel_rfl) (by kernel_rfl) (fun _ _ _ h => h) (Or.inl ⟨by rfl, ?_⟩) (by assumption) ?_
            rotate_left 1
            · intro w9 hSw; (try dsimp only at hSw); go_simp; try with_reducible rfl
            try simp only [Act.put, List.getElem_toArray, List.getElem_cons_zero, List.getElem_cons_succ, List.setIfInBounds_toArray, List.set_cons_zero, List.set_cons_succ]
            refine wpAnyH_done (by kernel_rfl) ?_ _
            have H3 := Aside0.mk (Kd.C_below H3.out hke)
            have hb := hke
            have HQ := Aside0.mk (And.intro (blk_below HQ.out.1 hb) (And.intro (blk_below HQ.out.2.1 hb) (reach_to' HQ.out.2.2 HQ.out.2.2.size hb)))
            clear hb hka hkb hkc hkd hke hHeld
            have p0 := (blk_cell HQ.out.1 0).trans rfl
            have p1 := (blk_cell HQ.out.1 1).trans rfl
            have p2 := (blk_cell HQ.out.1 2).trans rfl
            have p3 := (blk_cell HQ.out.1 3).trans rfl
            have p4 := (blk_cell HQ.out.1 4).trans rfl
            have p5 := (blk_cell HQ.out.1 5).trans rfl
            have p6 := (blk_cell HQ.out.1 6).trans rfl
            have p7 := (blk_cell HQ.out.1 7).trans rfl
            have p8 := (blk_cell HQ.out.1 8).trans rfl
            have q0 := (blk_cell HQ.out.2.1 0).trans rfl
            have q1 := (blk_cell HQ.out.2.1 1).trans rfl
            have q2 := (blk_cell HQ.out.2.1 2).trans rfl
            have q3 := (blk_cell HQ.out.2.1 3).trans rfl
            have q4 := (blk_cell HQ.out.2.1 4).trans rfl
            have q5 := (blk_cell HQ.out.2.1 5).trans rfl
            have q6 := (blk_cell HQ.out.2.1 6).trans rfl
            have q7 := (blk_cell HQ.out.2.1 7).trans rfl
            have q8 := (blk_cell HQ.out.2.1 8).trans rfl
            have hz0 : ¬ z = 0 := by rw [HV.out.2.1, HN.out]; exact code_pos k
            have hzb : (z != 0) = true := bne_iff_ne.2 hz0
            have hzd : decide (z = 0) = false := decide_eq_false hz0
            have hze : (z == 0) = false := beq_eq_false_iff_ne.2 hz0
            go_wp2_with fail
            clear hz0 hzb hzd hze
            clear p0 p1 p2 p3 p4 p5 p6 p7 p8 q0 q1 q2 q3 q4 q5 q6 q7 q8
            refine (read_any E A n c l _ ((HW.out.1.below HQ.out.2.2).sub read_ord) (Kd.C_below HB.out.1 HQ.out.2.2) HB.out.2.1 HB.out.2.2.1 HL.out).mono ?_
            rintro e w9 ⟨A6, n6, c6, rfl, hC6, hb⟩
            rw [HB.out.2.2.2.1] at hC6 ⊢
            simp only [Msg.cells] at hC6 ⊢
            obtain ⟨fv, hfv⟩ : ∃ fv, fv = errV E x := ⟨_, rfl⟩
            rw [← hfv]
            have hB9 := reach_to' HQ.out.2.2 HQ.out.2.2.size hb
            obtain ⟨W6, hW6⟩ : ∃ W6, W6 = w9.alloc (.cells #[.int .i64 u0, .int .u32 u1, .int .u32 u2, .int .u32 u3, .int .u32 u4, .int .i64 u5, .int .i64 u6, .bool u7, .slice A6 n6 c6] 56) := ⟨_, rfl⟩
            have hb6 : Below w9.heap.size w9 W6 := by rw [hW6]; exact below_alloc (Below.refl _ _) _
            have hg6 : W6.heap[w9.heap.size]? = some (.cells #[.int .i64 u0, .int .u32 u1, .int .u32 u2, .int .u32 u3, .int .u32 u4, .int .i64 u5, .int .i64 u6, .bool u7, .slice A6 n6 c6] 56 (0, 0)) := by rw [hW6]; exact heap_alloc_new _ _
            have H6 := Aside0.mk (And.intro (reach_to' hB9 hB9.size hb6) (And.intro (Kd.C_below hC6 hb6) hg6))
            have HX6 := Aside0.mk hW6
            have HFV := Aside0.mk hfv
            clear hb hC6 hB9 hW6 hb6 hg6 hfv
            go_wp2_with fail
            rw [← HX6.out]
            obtain ⟨g6, hg6⟩ : ∃ g6, g6 = w9.heap.size := ⟨_, rfl⟩
            rw [← hg6]
            have H6 := Aside0.mk (And.intro H6.out.1 (And.intro H6.out.2.1 (show W6.heap[g6]? = some (.cells #[.int .i64 u0, .int .u32 u1, .int .u32 u2, .int .u32 u3, .int .u32 u4, .int .i64 u5, .int .i64 u6, .bool u7, .slice A6 n6 c6] 56 (0, 0)) from hg6 ▸ H6.out.2.2)))
            clear HX6 hg6
            refine (refRead_msg A n c l _ (Kd.C_below HB.out.1 H6.out.1) HB.out.2.1 HL.out).mono ?_
            rintro e w10 ⟨A7, n7, c7, rfl, hC7, hb⟩
            rw [HB.out.2.2.2.1] at hC7 ⊢
            simp only [Msg.cells] at hC7 ⊢
            obtain ⟨zx, hzx⟩ : ∃ zx, zx = codeOf x := ⟨_, rfl⟩
            rw [← hzx]
            have hB10 := reach_to' H6.out.1 H6.out.1.size hb
            obtain ⟨W7, hW7⟩ : ∃ W7, W7 = w10.alloc (.cells #[.int .i64 u0, .int .u32 u1, .int .u32 u2, .int .u32 u3, .int .u32 u4, .int .i64 u5, .int .i64 u6, .bool u7, .slice A7 n7 c7] 56) := ⟨_, rfl⟩
            have hb7 : Below w10.heap.size w10 W7 := by rw [hW7]; exact below_alloc (Below.refl _ _) _
            have hg7 : W7.heap[w10.heap.size]? = some (.cells #[.int .i64 u0, .int .u32 u1, .int .u32 u2, .int .u32 u3, .int .u32 u4, .int .i64 u5, .int .i64 u6, .bool u7, .slice A7 n7 c7] 56 (0, 0)) := by rw [hW7]; exact heap_alloc_new _ _
            have H7 := Aside0.mk (And.intro (reach_to' hB10 hB10.size hb7) (And.intro (Kd.C_below (Kd.C_below H6.out.2.1 hb) hb7) (And.intro (Kd.C_below hC7 hb7) (And.intro (blk_below (blk_below H6.out.2.2 hb) hb7) hg7))))
            have HX7 := Aside0.mk hW7
            have HZX := Aside0.mk hzx
            clear hb hC7 hB10 hW7 hb7 hg7 hzx
            go_wp2_with fail
            rw [← HX7.out]
            obtain ⟨g7, hg7⟩ : ∃ g7, g7 = w10.heap.size := ⟨_, rfl⟩
            rw [← hg7]
            have hg7' : W7.heap[g7]? = some (.cells #[.int .i64 u0, .int .u32 u1, .int .u32 u2, .int .u32 u3, .int .u32 u4, .int .i64 u5, .int .i64 u6, .bool u7, .slice A7 n7 c7] 56 (0, 0)) := hg7 ▸ H7.out.2.2.2.2
            clear HX7 hg7
            refine (is_code E x fv zx HFV.out HZX.out HB.out.2.2.2.2.2 _ (HW.out.1.below H7.out.1)).mono ?_
            rintro e w11 ⟨rfl, hb⟩
            have hh6 := blk_below H7.out.2.2.2.1 hb
            have hh7 := blk_below hg7' hb
            have p0 := (blk_cell hh6 0).trans rfl
            have p1 := (blk_cell hh6 1).trans rfl
            have p2 := (blk_cell hh6 2).trans rfl
            have p3 := (blk_cell hh6 3).trans rfl
            have p4 := (blk_cell hh6 4).trans rfl
            have p5 := (blk_cell hh6 5).trans rfl
            have p6 := (blk_cell hh6 6).trans rfl
            have p7 := (blk_cell hh6 7).trans rfl
            have p8 := (blk_cell hh6 8).trans rfl
            have q0 := (blk_cell hh7 0).trans rfl
            have q1 := (blk_cell hh7 1).trans rfl
            have q2 := (blk_cell hh7 2).trans rfl
            have q3 := (blk_cell hh7 3).trans rfl
            have q4 := (blk_cell hh7 4).trans rfl
            have q5 := (blk_cell hh7 5).trans rfl
            have q6 := (blk_cell hh7 6).trans rfl
            have q7 := (blk_cell hh7 7).trans rfl
            have q8 := (blk_cell hh7 8).trans rfl
            have H8 := Aside0.mk (And.intro (reach_to' H7.out.1 H7.out.1.size hb) (And.intro (Kd.C_below H7.out.2.1 hb) (Kd.C_below H7.out.2.2.1 hb)))
            clear hh6 hh7 hb hg7'
            go_wp2_with fail
            refine (smsg_any ⟨u0, u1, u2, u3, u4, u5, u6, u7, lu⟩ ⟨u0, u1, u2, u3, u4, u5, u6, u7, lu⟩ A6 A7 n6 n7 c6 c7 _ H8.out.2.1 H8.out.2.2 (show lu.length ≤ 1000000 by have := HB.out.2.2.2.2.1; omega)).mono ?_
            rintro e w12 ⟨rfl, hb⟩
            rw [decide_eq_true rfl]
            clear p0 p1 p2 p3 p4 p5 p6 p7 p8 q0 q1 q2 q3 q4 q5 q6 q7 q8
            have hB12 := reach_to' H8.out.1 H8.out.1.size hb
            clear hb
            go_wp2
            all_goals go_ret
            all_goals exact ⟨rfl, hB12⟩
          · exact AllReadyH.nil
        · exact AllReadyH.nil
      · exact AllReadyH.nil
    · exact AllReadyH.nil
  · exact AllReadyH.nil
theorem wireSays_all (E : Nat → Addr) (m1 m2 : Msg) (A0 A1 A : Option Addr) (n0 n1 n c0 c1 c : Nat) (l : List Int) (w : World) (hE : Errs ordE E w) (hw0 : m1.wf) (hw1 : m2.wf) (h0 : Kd.C (Kd.int .u32) w A0 n0 m1.l) (h1 : Kd.C (Kd.int .u32) w A1 n1 m2.l) (hC : Kd.C (Kd.int .u8) w A n l) (hby : Byt l) (hle : n ≤ c) :
    Calls Tryd.prog 9 #[.agg (m1.cells (.slice A0 n0 c0)), .agg (m2.cells (.slice A1 n1 c1)), .slice A n c] w fun e w' => e = .returned (.bool true) ∧ Below w.heap.size w w' := by
  obtain ⟨x0, x1, x2, x3, x4, x5, x6, x7, lx⟩ := m1
  obtain ⟨y0, y1, y2, y3, y4, y5, y6, y7, ly⟩ := m2
  simp only at h0 h1
  simp only [Msg.cells]
  by_cases hn : 200 < n
  · exact says_long E x0 x1 x2 x3 x4 x5 x6 x7 lx y0 y1 y2 y3 y4 y5 y6 y7 ly A0 A1 A n0 n1 n c0 c1 c l w hE hw0 hw1 h0 h1 hn (Kd.C_max hC)
  by_cases hm0 : 20 < n0
  · exact says_heavy0 E x0 x1 x2 x3 x4 x5 x6 x7 lx y0 y1 y2 y3 y4 y5 y6 y7 ly A0 A1 A n0 n1 n c0 c1 c l w hE hw0 hw1 h0 h1 (by omega) hm0
  by_cases hm1 : 20 < n1
  · exact says_heavy1 E x0 x1 x2 x3 x4 x5 x6 x7 lx y0 y1 y2 y3 y4 y5 y6 y7 ly A0 A1 A n0 n1 n c0 c1 c l w hE hw0 hw1 h0 h1 (by omega) (by omega) hm1
  have h4 := readM_l4 l
  have ho := readM_ord l
  obtain ⟨M, x, hR⟩ : ∃ M x, readM l = (M, x) := ⟨_, _, rfl⟩
  rw [hR] at h4 ho
  obtain ⟨u0, u1, u2, u3, u4, u5, u6, u7, lu⟩ := M
  simp only at h4 ho
  cases hv : validL ⟨x0, x1, x2, x3, x4, x5, x6, x7, lx⟩ with
  | none => exact says_ok E x0 x1 x2 x3 x4 x5 x6 x7 lx y0 y1 y2 y3 y4 y5 y6 y7 ly A0 A1 A n0 n1 n c0 c1 c l w hE hw0 hw1 h0 h1 hC hby hle (by omega) (by omega) (by omega) hv u0 u1 u2 u3 u4 u5 u6 u7 lu x hR h4 ho
  | some k => exact says_bad E x0 x1 x2 x3 x4 x5 x6 x7 lx y0 y1 y2 y3 y4 y5 y6 y7 ly A0 A1 A n0 n1 n c0 c1 c l w hE hw0 hw1 h0 h1 hC hby hle (by omega) (by omega) (by omega) k hv u0 u1 u2 u3 u4 u5 u6 u7 lu x hR h4 ho
end Go.Proofs.YtbgbplbkombfjaaDoor
