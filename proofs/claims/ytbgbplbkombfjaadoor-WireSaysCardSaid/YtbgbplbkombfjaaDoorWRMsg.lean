/- wire.reader: msg, kinds 1, 2, 3, 5. -/
import Derived.Test.YtbgbplbkombfjaaDoorWRdr
import Derived.Laws.ResultCell
namespace Go.Proofs.YtbgbplbkombfjaaDoor
open Go.RowKit Go.Proofs.YtbgbplbkombfjaaDoorW.PrintWords SumPlain
set_option linter.unusedVariables false
set_option linter.unusedSimpArgs false
attribute [local go_sem] setCell_drewN alloc_drewN
theorem results_cell_row2 {P : Program} {fn : Func} {p u : Tmp} {ty : TypeId} (h : fn.results = #[.cell p ty, .tmp u]) (tmps : Array Value) (w : World) (g : Nat) (t : TypeId) (cs : Array Value) (fr : Nat × Nat) (d : TypeDesc)
    (hp : tmps.getD p undef = .pointer (some ⟨g, 0, none⟩)) (hg : w.heap[g]? = some (.cells cs t fr))
    (hu : P.underlying ty = some d) (hd : (match d with | .struct _ | .array _ _ => true | _ => false) = true) (hi : (P.info? ty).map (·.size) = some cs.size) :
    (results fn tmps).run P w = .ok (.tuple #[.agg cs, tmps.getD u undef]) w := by
  rw [results_cell_tmp h, hp]
  simp [asAddr, run_loadVar_row w g t ty cs fr d hg hu hd hi]
theorem RS.set {w0 w : World} {r : Nat} {s : List Int × Bool} (h : RS w0 w r s) (g i : Nat) (u : Value) (hg : g ≠ r) (hg0 : w0.heap.size ≤ g) : RS w0 (w.setCell ⟨g, i, none⟩ u) r s := by
  obtain ⟨⟨A, n, c, hr, hle, hC⟩, hB, hlt⟩ := h
  exact ⟨⟨A, n, c, blk_far hr (fun e => hg e.symm) u, hle, hC⟩, Below.setCell hB hg0 u, hlt⟩
theorem Fr.setNew {r : Nat} {w w' : World} (h : Fr r w w') (g i : Nat) (u : Value) (hg : w.heap.size ≤ g) : Fr r w (w'.setCell ⟨g, i, none⟩ u) :=
  ⟨by simpa [World.setCell] using h.1, fun k hk hn => (Below.heap_setCell w' ⟨g, i, none⟩ u k (show k ≠ g by omega)).trans (h.2 k hk hn)⟩
theorem cells_set {w : World} {g t i : Nat} {cs cs' : Array Value} {a : Value} (h : w.heap[g]? = some (.cells cs t (0, 0))) (e : cs.setIfInBounds i a = cs') : (w.setCell ⟨g, i, none⟩ a).heap[g]? = some (.cells cs' t (0, 0)) := (blk_set h i a).trans (by rw [e])
theorem blk_put9 {w : World} {g t : Nat} {x0 x1 x2 x3 x4 x5 x6 x7 x8 a0 a1 a2 a3 a4 a5 a6 a7 a8 : Value} (h : w.heap[g]? = some (.cells #[x0, x1, x2, x3, x4, x5, x6, x7, x8] t (0, 0))) :
    (((((((((w.setCell ⟨g, 0, none⟩ a0).setCell ⟨g, 1, none⟩ a1).setCell ⟨g, 2, none⟩ a2).setCell ⟨g, 3, none⟩ a3).setCell ⟨g, 4, none⟩ a4).setCell ⟨g, 5, none⟩ a5).setCell ⟨g, 6, none⟩ a6).setCell ⟨g, 7, none⟩ a7).setCell ⟨g, 8, none⟩ a8).heap[g]? = some (.cells #[a0, a1, a2, a3, a4, a5, a6, a7, a8] t (0, 0)) := by
  have h := cells_set (i := 0) (a := a0) (cs' := #[a0, x1, x2, x3, x4, x5, x6, x7, x8]) h (by simp)
  have h := cells_set (i := 1) (a := a1) (cs' := #[a0, a1, x2, x3, x4, x5, x6, x7, x8]) h (by simp)
  have h := cells_set (i := 2) (a := a2) (cs' := #[a0, a1, a2, x3, x4, x5, x6, x7, x8]) h (by simp)
  have h := cells_set (i := 3) (a := a3) (cs' := #[a0, a1, a2, a3, x4, x5, x6, x7, x8]) h (by simp)
  have h := cells_set (i := 4) (a := a4) (cs' := #[a0, a1, a2, a3, a4, x5, x6, x7, x8]) h (by simp)
  have h := cells_set (i := 5) (a := a5) (cs' := #[a0, a1, a2, a3, a4, a5, x6, x7, x8]) h (by simp)
  have h := cells_set (i := 6) (a := a6) (cs' := #[a0, a1, a2, a3, a4, a5, a6, x7, x8]) h (by simp)
  have h := cells_set (i := 7) (a := a7) (cs' := #[a0, a1, a2, a3, a4, a5, a6, a7, x8]) h (by simp)
  have h := cells_set (i := 8) (a := a8) (cs' := #[a0, a1, a2, a3, a4, a5, a6, a7, a8]) h (by simp)
  exact h
theorem rA_byt (s : List Int × Bool) (h : Byt s.1) : Byt (rA s).2.1 := (nx_byt 4 s h).2
theorem rN_byt (s : List Int × Bool) (h : Byt s.1) : Byt (rN s).2.1 := (nx_byt 2 s h).2
set_option maxHeartbeats 2000000 in
set_option maxRecDepth 100000 in
theorem rmsg1 (w0 w : World) (r : Nat) (s : List Int × Bool) (h : RS w0 w r s) (hby : Byt s.1) :
    Calls Tryd.prog 58 #[.pointer (some ⟨r, 0, none⟩), .int .i64 1] w fun e w' => e = .returned (.tuple #[.agg #[.int .i64 1, .int .u32 (rA s).1, .int .u32 0, .int .u32 0, .int .u32 0, .int .i64 (rN (rA s).2).1, .int .i64 0, .bool false, .slice none 0 0], .int .u8 0]) ∧ RS w0 w' r (rN (rA s).2).2 ∧ Fr r w w' := by
  have hu2 := Tryd.underlying56
  have hu3 := Tryd.underlying53
  have hu4 := Tryd.underlying86
  have hrw : r < w.heap.size := by obtain ⟨⟨A, n, c, hr, _, _⟩, _, _⟩ := h; exact (Array.getElem?_eq_some_iff.1 hr).1
  have hr0 := h.hr
  have HS := Aside0.mk (And.intro h hby)
  clear h hby
  go_enter Tryd.func58, Tryd.ntmps58
  go_wp2_with fail
  refine (of_1 _).mono ?_
  rintro e w1 ⟨rfl, hw1⟩
  have hb1 : Below w.heap.size w w1 := by rw [hw1]; exact below_alloc (below_alloc (Below.refl _ _) _) _
  have hz : w1.heap[w.heap.size]? = some (.cells #[.int .i64 0, .int .u32 0, .int .u32 0, .int .u32 0, .int .u32 0, .int .i64 0, .int .i64 0, .bool false, .slice none 0 0] 56 (0, 0)) := by rw [hw1]; exact blk_alloc (heap_alloc_new w _) _
  clear hw1
  obtain ⟨b, hb⟩ : ∃ b, b = w.heap.size := ⟨_, rfl⟩
  rw [← hb] at hz ⊢
  have HB := Aside0.mk (And.intro hb (And.intro hb1 (And.intro hz (And.intro hrw hr0))))
  have hbw : b < w1.heap.size := (Array.getElem?_eq_some_iff.1 hz).1
  clear hb hb1 hz hrw hr0
  go_wp2_with fail
  obtain ⟨hb, hb1, hz, hrw, hr0⟩ := HB.out
  clear HB
  obtain ⟨X, hX⟩ : ∃ X, X = w1.alloc (.cells #[.bool false, .bool false, .bool false, .bool true, .bool false, .bool false] 86) := ⟨_, rfl⟩
  rw [← hX]
  have hbX : Below w1.heap.size w1 X := by rw [hX]; exact below_alloc (Below.refl _ _) _
  have hh : X.heap[w1.heap.size]? = some (.cells #[.bool false, .bool false, .bool false, .bool true, .bool false, .bool false] 86 (0, 0)) := by rw [hX]; exact heap_alloc_new _ _
  obtain ⟨p, hp⟩ : ∃ p, p = w1.heap.size := ⟨_, rfl⟩
  rw [← hp] at hh ⊢
  have hz := blk_below hz hbX
  have hbXw : Below w.heap.size w X := reach_to hb1 hb1.size hbX
  have hF := Fr.below (r := r) hbXw
  clear hX hb1
  refine (addr_rd w0 X r s (HS.out.1.below hbXw) HS.out.2).mono ?_
  rintro e x0 ⟨rfl, hS0, hF0⟩
  have hz := hF0.blk (show b ≠ r by omega) hz
  have hh := hF0.blk (show p ≠ r by omega) hh
  have hF := hF.trans hF0
  have hY0 := rA_byt s HS.out.2
  have hbp : b < p := by omega
  have hpx : p < x0.heap.size := (Array.getElem?_eq_some_iff.1 hh).1
  clear hF0 hbX hbXw hbw hp
  have k0 := (blk_cell hh 0).trans rfl
  have k1 := (blk_cell hh 1).trans rfl
  have k2 := (blk_cell hh 2).trans rfl
  have k3 := (blk_cell hh 3).trans rfl
  have k4 := (blk_cell hh 4).trans rfl
  have k5 := (blk_cell hh 5).trans rfl
  have HC := Aside0.mk (And.intro hz (And.intro hh (And.intro hF (And.intro hS0 (And.intro hY0 (And.intro hb (And.intro hrw hr0)))))))
  clear hz hh hF hS0 hY0 hb hrw hr0
  go_wp2_with fail
  obtain ⟨hz, hh, hF, hS0, hY0, hb, hrw, hr0⟩ := HC.out
  clear HC k0 k1 k2 k3 k4 k5
  obtain ⟨X1, hX1⟩ : ∃ X1, X1 = x0.alloc (.cells #[.int .i64 1, .int .u32 (rA s).1, .int .u32 0, .int .u32 0, .int .u32 0, .int .i64 0, .int .i64 0, .bool false, .slice none 0 0] 56) := ⟨_, rfl⟩
  rw [← hX1]
  have hbX1 : Below x0.heap.size x0 X1 := by rw [hX1]; exact below_alloc (Below.refl _ _) _
  have hm : X1.heap[x0.heap.size]? = some (.cells #[.int .i64 1, .int .u32 (rA s).1, .int .u32 0, .int .u32 0, .int .u32 0, .int .i64 0, .int .i64 0, .bool false, .slice none 0 0] 56 (0, 0)) := by rw [hX1]; exact heap_alloc_new _ _
  obtain ⟨q, hq⟩ : ∃ q, q = x0.heap.size := ⟨_, rfl⟩
  rw [← hq] at hm hpx ⊢
  have hz := blk_below hz hbX1
  have hh := blk_below hh hbX1
  have hF := hF.trans (Fr.below hbX1)
  have hS := hS0.below hbX1
  have hY := hY0
  have hrq : r < q := by omega
  clear hX1 hbX1 hS0 hY0 hq
  refine (num_rd w0 X1 r (rA s).2 hS hY).mono ?_
  rintro e x1 ⟨rfl, hS1, hF1⟩
  have hz := hF1.blk (show b ≠ r by omega) hz
  have hh := hF1.blk (show p ≠ r by omega) hh
  have hm := hF1.blk (show q ≠ r by omega) hm
  have hF := hF.trans hF1
  have hY := rN_byt _ hY
  have hS := hS1
  clear hF1 hS1
  have k0 := (blk_cell hh 0).trans rfl
  have k1 := (blk_cell hh 1).trans rfl
  have k2 := (blk_cell hh 2).trans rfl
  have k3 := (blk_cell hh 3).trans rfl
  have k4 := (blk_cell hh 4).trans rfl
  have k5 := (blk_cell hh 5).trans rfl
  have m0 := (blk_cell hm 0).trans rfl
  have m1 := (blk_cell hm 1).trans rfl
  have m2 := (blk_cell hm 2).trans rfl
  have m3 := (blk_cell hm 3).trans rfl
  have m4 := (blk_cell hm 4).trans rfl
  have m5 := (blk_cell hm 5).trans rfl
  have m6 := (blk_cell hm 6).trans rfl
  have m7 := (blk_cell hm 7).trans rfl
  have m8 := (blk_cell hm 8).trans rfl
  have z0 := (blk_cell hz 0).trans rfl
  have z1 := (blk_cell hz 1).trans rfl
  have z2 := (blk_cell hz 2).trans rfl
  have z3 := (blk_cell hz 3).trans rfl
  have z4 := (blk_cell hz 4).trans rfl
  have z5 := (blk_cell hz 5).trans rfl
  have z6 := (blk_cell hz 6).trans rfl
  have z7 := (blk_cell hz 7).trans rfl
  have z8 := (blk_cell hz 8).trans rfl
  have fm := blk_frozen hm
  have fz := blk_frozen hz
  have hpx1 : q < x1.heap.size := (Array.getElem?_eq_some_iff.1 hm).1
  have HC := Aside0.mk (And.intro hz (And.intro hh (And.intro hm (And.intro hF (And.intro hS (And.intro hY (And.intro hb (And.intro hrw hr0))))))))
  clear hz hh hm hF hS hY hb hrw hr0
  go_wp2
  obtain ⟨hz, hh, hm, hF, hS, hY, hb, hrw, hr0⟩ := HC.out
  refine bodyPost_ret (results_cell_row2 rfl _ _ b 56 #[.int .i64 1, .int .u32 (rA s).1, .int .u32 0, .int .u32 0, .int .u32 0, .int .i64 (rN (rA s).2).1, .int .i64 0, .bool false, .slice none 0 0] (0, 0) _ rfl (blk_put9 (blk_far hz (show b ≠ q by omega) _)) hu2 rfl (by kernel_rfl)) rfl ?_
  refine ⟨rfl, ?_, ?_⟩
  · repeat' (first | (refine RS.set ?_ _ _ _ (by omega) (by omega)) | exact hS)
  · repeat' (first | (refine Fr.setNew ?_ _ _ _ (by omega)) | exact hF)
set_option maxHeartbeats 2000000 in
set_option maxRecDepth 100000 in
theorem rmsg2 (w0 w : World) (r : Nat) (s : List Int × Bool) (h : RS w0 w r s) (hby : Byt s.1) :
    Calls Tryd.prog 58 #[.pointer (some ⟨r, 0, none⟩), .int .i64 2] w fun e w' => e = .returned (.tuple #[.agg #[.int .i64 2, .int .u32 (rA s).1, .int .u32 (rA (rA s).2).1, .int .u32 (rA (rA (rA s).2).2).1, .int .u32 (rA (rA (rA (rA s).2).2).2).1, .int .i64 0, .int .i64 0, .bool false, .slice none 0 0], .int .u8 0]) ∧ RS w0 w' r (rA (rA (rA (rA s).2).2).2).2 ∧ Fr r w w' := by
  have hu2 := Tryd.underlying56
  have hu3 := Tryd.underlying53
  have hu4 := Tryd.underlying86
  have hrw : r < w.heap.size := by obtain ⟨⟨A, n, c, hr, _, _⟩, _, _⟩ := h; exact (Array.getElem?_eq_some_iff.1 hr).1
  have hr0 := h.hr
  have HS := Aside0.mk (And.intro h hby)
  clear h hby
  go_enter Tryd.func58, Tryd.ntmps58
  go_wp2_with fail
  refine (of_2 _).mono ?_
  rintro e w1 ⟨rfl, hw1⟩
  have hb1 : Below w.heap.size w w1 := by rw [hw1]; exact below_alloc (below_alloc (Below.refl _ _) _) _
  have hz : w1.heap[w.heap.size]? = some (.cells #[.int .i64 0, .int .u32 0, .int .u32 0, .int .u32 0, .int .u32 0, .int .i64 0, .int .i64 0, .bool false, .slice none 0 0] 56 (0, 0)) := by rw [hw1]; exact blk_alloc (heap_alloc_new w _) _
  clear hw1
  obtain ⟨b, hb⟩ : ∃ b, b = w.heap.size := ⟨_, rfl⟩
  rw [← hb] at hz ⊢
  have HB := Aside0.mk (And.intro hb (And.intro hb1 (And.intro hz (And.intro hrw hr0))))
  have hbw : b < w1.heap.size := (Array.getElem?_eq_some_iff.1 hz).1
  clear hb hb1 hz hrw hr0
  go_wp2_with fail
  obtain ⟨hb, hb1, hz, hrw, hr0⟩ := HB.out
  clear HB
  obtain ⟨X, hX⟩ : ∃ X, X = w1.alloc (.cells #[.bool true, .bool true, .bool true, .bool false, .bool false, .bool false] 86) := ⟨_, rfl⟩
  rw [← hX]
  have hbX : Below w1.heap.size w1 X := by rw [hX]; exact below_alloc (Below.refl _ _) _
  have hh : X.heap[w1.heap.size]? = some (.cells #[.bool true, .bool true, .bool true, .bool false, .bool false, .bool false] 86 (0, 0)) := by rw [hX]; exact heap_alloc_new _ _
  obtain ⟨p, hp⟩ : ∃ p, p = w1.heap.size := ⟨_, rfl⟩
  rw [← hp] at hh ⊢
  have hz := blk_below hz hbX
  have hbXw : Below w.heap.size w X := reach_to hb1 hb1.size hbX
  have hF := Fr.below (r := r) hbXw
  clear hX hb1
  refine (addr_rd w0 X r s (HS.out.1.below hbXw) HS.out.2).mono ?_
  rintro e x0 ⟨rfl, hS0, hF0⟩
  have hz := hF0.blk (show b ≠ r by omega) hz
  have hh := hF0.blk (show p ≠ r by omega) hh
  have hF := hF.trans hF0
  have hY0 := rA_byt s HS.out.2
  have hbp : b < p := by omega
  have hpx : p < x0.heap.size := (Array.getElem?_eq_some_iff.1 hh).1
  clear hF0 hbX hbXw hbw hp
  have k0 := (blk_cell hh 0).trans rfl
  have k1 := (blk_cell hh 1).trans rfl
  have k2 := (blk_cell hh 2).trans rfl
  have k3 := (blk_cell hh 3).trans rfl
  have k4 := (blk_cell hh 4).trans rfl
  have k5 := (blk_cell hh 5).trans rfl
  have HC := Aside0.mk (And.intro hz (And.intro hh (And.intro hF (And.intro hS0 (And.intro hY0 (And.intro hb (And.intro hrw hr0)))))))
  clear hz hh hF hS0 hY0 hb hrw hr0
  go_wp2_with fail
  obtain ⟨hz, hh, hF, hS0, hY0, hb, hrw, hr0⟩ := HC.out
  clear HC k0 k1 k2 k3 k4 k5
  obtain ⟨X1, hX1⟩ : ∃ X1, X1 = x0.alloc (.cells #[.int .i64 2, .int .u32 (rA s).1, .int .u32 0, .int .u32 0, .int .u32 0, .int .i64 0, .int .i64 0, .bool false, .slice none 0 0] 56) := ⟨_, rfl⟩
  rw [← hX1]
  have hbX1 : Below x0.heap.size x0 X1 := by rw [hX1]; exact below_alloc (Below.refl _ _) _
  have hm : X1.heap[x0.heap.size]? = some (.cells #[.int .i64 2, .int .u32 (rA s).1, .int .u32 0, .int .u32 0, .int .u32 0, .int .i64 0, .int .i64 0, .bool false, .slice none 0 0] 56 (0, 0)) := by rw [hX1]; exact heap_alloc_new _ _
  obtain ⟨q, hq⟩ : ∃ q, q = x0.heap.size := ⟨_, rfl⟩
  rw [← hq] at hm hpx ⊢
  have hz := blk_below hz hbX1
  have hh := blk_below hh hbX1
  have hF := hF.trans (Fr.below hbX1)
  have hS := hS0.below hbX1
  have hY := hY0
  have hrq : r < q := by omega
  clear hX1 hbX1 hS0 hY0 hq
  refine (addr_rd w0 X1 r (rA s).2 hS hY).mono ?_
  rintro e x1 ⟨rfl, hS1, hF1⟩
  have hz := hF1.blk (show b ≠ r by omega) hz
  have hh := hF1.blk (show p ≠ r by omega) hh
  have hm := hF1.blk (show q ≠ r by omega) hm
  have hF := hF.trans hF1
  have hY := rA_byt _ hY
  have hS := hS1
  clear hF1 hS1
  have k0 := (blk_cell hh 0).trans rfl
  have k1 := (blk_cell hh 1).trans rfl
  have k2 := (blk_cell hh 2).trans rfl
  have k3 := (blk_cell hh 3).trans rfl
  have k4 := (blk_cell hh 4).trans rfl
  have k5 := (blk_cell hh 5).trans rfl
  have m0 := (blk_cell hm 0).trans rfl
  have m1 := (blk_cell hm 1).trans rfl
  have m2 := (blk_cell hm 2).trans rfl
  have m3 := (blk_cell hm 3).trans rfl
  have m4 := (blk_cell hm 4).trans rfl
  have m5 := (blk_cell hm 5).trans rfl
  have m6 := (blk_cell hm 6).trans rfl
  have m7 := (blk_cell hm 7).trans rfl
  have m8 := (blk_cell hm 8).trans rfl
  have z0 := (blk_cell hz 0).trans rfl
  have z1 := (blk_cell hz 1).trans rfl
  have z2 := (blk_cell hz 2).trans rfl
  have z3 := (blk_cell hz 3).trans rfl
  have z4 := (blk_cell hz 4).trans rfl
  have z5 := (blk_cell hz 5).trans rfl
  have z6 := (blk_cell hz 6).trans rfl
  have z7 := (blk_cell hz 7).trans rfl
  have z8 := (blk_cell hz 8).trans rfl
  have fm := blk_frozen hm
  have fz := blk_frozen hz
  have hpx1 : q < x1.heap.size := (Array.getElem?_eq_some_iff.1 hm).1
  have HC := Aside0.mk (And.intro hz (And.intro hh (And.intro hm (And.intro hF (And.intro hS (And.intro hY (And.intro hb (And.intro hrw hr0))))))))
  clear hz hh hm hF hS hY hb hrw hr0
  go_wp2_with fail
  obtain ⟨hz, hh, hm, hF, hS, hY, hb, hrw, hr0⟩ := HC.out
  clear HC k0 k1 k2 k3 k4 k5 m0 m1 m2 m3 m4 m5 m6 m7 m8 z0 z1 z2 z3 z4 z5 z6 z7 z8 fm fz
  obtain ⟨X2, hX2⟩ : ∃ X2, X2 = x1.setCell ⟨q, 2, none⟩ (.int .u32 (rA (rA s).2).1) := ⟨_, rfl⟩
  rw [← hX2]
  have hz : X2.heap[b]? = some (.cells #[.int .i64 0, .int .u32 0, .int .u32 0, .int .u32 0, .int .u32 0, .int .i64 0, .int .i64 0, .bool false, .slice none 0 0] 56 (0, 0)) := by rw [hX2]; exact blk_far hz (show b ≠ q by omega) _
  have hh : X2.heap[p]? = some (.cells #[.bool true, .bool true, .bool true, .bool false, .bool false, .bool false] 86 (0, 0)) := by rw [hX2]; exact blk_far hh (show p ≠ q by omega) _
  have hm : X2.heap[q]? = some (.cells #[.int .i64 2, .int .u32 (rA s).1, .int .u32 (rA (rA s).2).1, .int .u32 0, .int .u32 0, .int .i64 0, .int .i64 0, .bool false, .slice none 0 0] 56 (0, 0)) := by rw [hX2]; exact (blk_set hm 2 _).trans rfl
  have hF : Fr r w X2 := by rw [hX2]; exact hF.setNew q 2 _ (by omega)
  have hS : RS w0 X2 r (rA (rA s).2).2 := by rw [hX2]; exact hS.set q 2 _ (by omega) (by omega)
  clear hX2
  refine (addr_rd w0 X2 r (rA (rA s).2).2 hS hY).mono ?_
  rintro e x2 ⟨rfl, hS2, hF2⟩
  have hz := hF2.blk (show b ≠ r by omega) hz
  have hh := hF2.blk (show p ≠ r by omega) hh
  have hm := hF2.blk (show q ≠ r by omega) hm
  have hF := hF.trans hF2
  have hY := rA_byt _ hY
  have hS := hS2
  clear hF2 hS2
  have k0 := (blk_cell hh 0).trans rfl
  have k1 := (blk_cell hh 1).trans rfl
  have k2 := (blk_cell hh 2).trans rfl
  have k3 := (blk_cell hh 3).trans rfl
  have k4 := (blk_cell hh 4).trans rfl
  have k5 := (blk_cell hh 5).trans rfl
  have m0 := (blk_cell hm 0).trans rfl
  have m1 := (blk_cell hm 1).trans rfl
  have m2 := (blk_cell hm 2).trans rfl
  have m3 := (blk_cell hm 3).trans rfl
  have m4 := (blk_cell hm 4).trans rfl
  have m5 := (blk_cell hm 5).trans rfl
  have m6 := (blk_cell hm 6).trans rfl
  have m7 := (blk_cell hm 7).trans rfl
  have m8 := (blk_cell hm 8).trans rfl
  have z0 := (blk_cell hz 0).trans rfl
  have z1 := (blk_cell hz 1).trans rfl
  have z2 := (blk_cell hz 2).trans rfl
  have z3 := (blk_cell hz 3).trans rfl
  have z4 := (blk_cell hz 4).trans rfl
  have z5 := (blk_cell hz 5).trans rfl
  have z6 := (blk_cell hz 6).trans rfl
  have z7 := (blk_cell hz 7).trans rfl
  have z8 := (blk_cell hz 8).trans rfl
  have fm := blk_frozen hm
  have fz := blk_frozen hz
  have hpx2 : q < x2.heap.size := (Array.getElem?_eq_some_iff.1 hm).1
  have HC := Aside0.mk (And.intro hz (And.intro hh (And.intro hm (And.intro hF (And.intro hS (And.intro hY (And.intro hb (And.intro hrw hr0))))))))
  clear hz hh hm hF hS hY hb hrw hr0
  go_wp2_with fail
  obtain ⟨hz, hh, hm, hF, hS, hY, hb, hrw, hr0⟩ := HC.out
  clear HC k0 k1 k2 k3 k4 k5 m0 m1 m2 m3 m4 m5 m6 m7 m8 z0 z1 z2 z3 z4 z5 z6 z7 z8 fm fz
  obtain ⟨X3, hX3⟩ : ∃ X3, X3 = x2.setCell ⟨q, 3, none⟩ (.int .u32 (rA (rA (rA s).2).2).1) := ⟨_, rfl⟩
  rw [← hX3]
  have hz : X3.heap[b]? = some (.cells #[.int .i64 0, .int .u32 0, .int .u32 0, .int .u32 0, .int .u32 0, .int .i64 0, .int .i64 0, .bool false, .slice none 0 0] 56 (0, 0)) := by rw [hX3]; exact blk_far hz (show b ≠ q by omega) _
  have hh : X3.heap[p]? = some (.cells #[.bool true, .bool true, .bool true, .bool false, .bool false, .bool false] 86 (0, 0)) := by rw [hX3]; exact blk_far hh (show p ≠ q by omega) _
  have hm : X3.heap[q]? = some (.cells #[.int .i64 2, .int .u32 (rA s).1, .int .u32 (rA (rA s).2).1, .int .u32 (rA (rA (rA s).2).2).1, .int .u32 0, .int .i64 0, .int .i64 0, .bool false, .slice none 0 0] 56 (0, 0)) := by rw [hX3]; exact (blk_set hm 3 _).trans rfl
  have hF : Fr r w X3 := by rw [hX3]; exact hF.setNew q 3 _ (by omega)
  have hS : RS w0 X3 r (rA (rA (rA s).2).2).2 := by rw [hX3]; exact hS.set q 3 _ (by omega) (by omega)
  clear hX3
  refine (addr_rd w0 X3 r (rA (rA (rA s).2).2).2 hS hY).mono ?_
  rintro e x3 ⟨rfl, hS3, hF3⟩
  have hz := hF3.blk (show b ≠ r by omega) hz
  have hh := hF3.blk (show p ≠ r by omega) hh
  have hm := hF3.blk (show q ≠ r by omega) hm
  have hF := hF.trans hF3
  have hY := rA_byt _ hY
  have hS := hS3
  clear hF3 hS3
  have k0 := (blk_cell hh 0).trans rfl
  have k1 := (blk_cell hh 1).trans rfl
  have k2 := (blk_cell hh 2).trans rfl
  have k3 := (blk_cell hh 3).trans rfl
  have k4 := (blk_cell hh 4).trans rfl
  have k5 := (blk_cell hh 5).trans rfl
  have m0 := (blk_cell hm 0).trans rfl
  have m1 := (blk_cell hm 1).trans rfl
  have m2 := (blk_cell hm 2).trans rfl
  have m3 := (blk_cell hm 3).trans rfl
  have m4 := (blk_cell hm 4).trans rfl
  have m5 := (blk_cell hm 5).trans rfl
  have m6 := (blk_cell hm 6).trans rfl
  have m7 := (blk_cell hm 7).trans rfl
  have m8 := (blk_cell hm 8).trans rfl
  have z0 := (blk_cell hz 0).trans rfl
  have z1 := (blk_cell hz 1).trans rfl
  have z2 := (blk_cell hz 2).trans rfl
  have z3 := (blk_cell hz 3).trans rfl
  have z4 := (blk_cell hz 4).trans rfl
  have z5 := (blk_cell hz 5).trans rfl
  have z6 := (blk_cell hz 6).trans rfl
  have z7 := (blk_cell hz 7).trans rfl
  have z8 := (blk_cell hz 8).trans rfl
  have fm := blk_frozen hm
  have fz := blk_frozen hz
  have hpx3 : q < x3.heap.size := (Array.getElem?_eq_some_iff.1 hm).1
  have HC := Aside0.mk (And.intro hz (And.intro hh (And.intro hm (And.intro hF (And.intro hS (And.intro hY (And.intro hb (And.intro hrw hr0))))))))
  clear hz hh hm hF hS hY hb hrw hr0
  go_wp2
  obtain ⟨hz, hh, hm, hF, hS, hY, hb, hrw, hr0⟩ := HC.out
  refine bodyPost_ret (results_cell_row2 rfl _ _ b 56 #[.int .i64 2, .int .u32 (rA s).1, .int .u32 (rA (rA s).2).1, .int .u32 (rA (rA (rA s).2).2).1, .int .u32 (rA (rA (rA (rA s).2).2).2).1, .int .i64 0, .int .i64 0, .bool false, .slice none 0 0] (0, 0) _ rfl (blk_put9 (blk_far hz (show b ≠ q by omega) _)) hu2 rfl (by kernel_rfl)) rfl ?_
  refine ⟨rfl, ?_, ?_⟩
  · repeat' (first | (refine RS.set ?_ _ _ _ (by omega) (by omega)) | exact hS)
  · repeat' (first | (refine Fr.setNew ?_ _ _ _ (by omega)) | exact hF)
set_option maxHeartbeats 2000000 in
set_option maxRecDepth 100000 in
theorem rmsg3 (w0 w : World) (r : Nat) (s : List Int × Bool) (h : RS w0 w r s) (hby : Byt s.1) :
    Calls Tryd.prog 58 #[.pointer (some ⟨r, 0, none⟩), .int .i64 3] w fun e w' => e = .returned (.tuple #[.agg #[.int .i64 3, .int .u32 (rA s).1, .int .u32 0, .int .u32 (rA (rA s).2).1, .int .u32 (rA (rA (rA s).2).2).1, .int .i64 0, .int .i64 (rN (rA (rA (rA s).2).2).2).1, .bool false, .slice none 0 0], .int .u8 0]) ∧ RS w0 w' r (rN (rA (rA (rA s).2).2).2).2 ∧ Fr r w w' := by
  have hu2 := Tryd.underlying56
  have hu3 := Tryd.underlying53
  have hu4 := Tryd.underlying86
  have hrw : r < w.heap.size := by obtain ⟨⟨A, n, c, hr, _, _⟩, _, _⟩ := h; exact (Array.getElem?_eq_some_iff.1 hr).1
  have hr0 := h.hr
  have HS := Aside0.mk (And.intro h hby)
  clear h hby
  go_enter Tryd.func58, Tryd.ntmps58
  go_wp2_with fail
  refine (of_3 _).mono ?_
  rintro e w1 ⟨rfl, hw1⟩
  have hb1 : Below w.heap.size w w1 := by rw [hw1]; exact below_alloc (below_alloc (Below.refl _ _) _) _
  have hz : w1.heap[w.heap.size]? = some (.cells #[.int .i64 0, .int .u32 0, .int .u32 0, .int .u32 0, .int .u32 0, .int .i64 0, .int .i64 0, .bool false, .slice none 0 0] 56 (0, 0)) := by rw [hw1]; exact blk_alloc (heap_alloc_new w _) _
  clear hw1
  obtain ⟨b, hb⟩ : ∃ b, b = w.heap.size := ⟨_, rfl⟩
  rw [← hb] at hz ⊢
  have HB := Aside0.mk (And.intro hb (And.intro hb1 (And.intro hz (And.intro hrw hr0))))
  have hbw : b < w1.heap.size := (Array.getElem?_eq_some_iff.1 hz).1
  clear hb hb1 hz hrw hr0
  go_wp2_with fail
  obtain ⟨hb, hb1, hz, hrw, hr0⟩ := HB.out
  clear HB
  obtain ⟨X, hX⟩ : ∃ X, X = w1.alloc (.cells #[.bool false, .bool true, .bool true, .bool false, .bool true, .bool false] 86) := ⟨_, rfl⟩
  rw [← hX]
  have hbX : Below w1.heap.size w1 X := by rw [hX]; exact below_alloc (Below.refl _ _) _
  have hh : X.heap[w1.heap.size]? = some (.cells #[.bool false, .bool true, .bool true, .bool false, .bool true, .bool false] 86 (0, 0)) := by rw [hX]; exact heap_alloc_new _ _
  obtain ⟨p, hp⟩ : ∃ p, p = w1.heap.size := ⟨_, rfl⟩
  rw [← hp] at hh ⊢
  have hz := blk_below hz hbX
  have hbXw : Below w.heap.size w X := reach_to hb1 hb1.size hbX
  have hF := Fr.below (r := r) hbXw
  clear hX hb1
  refine (addr_rd w0 X r s (HS.out.1.below hbXw) HS.out.2).mono ?_
  rintro e x0 ⟨rfl, hS0, hF0⟩
  have hz := hF0.blk (show b ≠ r by omega) hz
  have hh := hF0.blk (show p ≠ r by omega) hh
  have hF := hF.trans hF0
  have hY0 := rA_byt s HS.out.2
  have hbp : b < p := by omega
  have hpx : p < x0.heap.size := (Array.getElem?_eq_some_iff.1 hh).1
  clear hF0 hbX hbXw hbw hp
  have k0 := (blk_cell hh 0).trans rfl
  have k1 := (blk_cell hh 1).trans rfl
  have k2 := (blk_cell hh 2).trans rfl
  have k3 := (blk_cell hh 3).trans rfl
  have k4 := (blk_cell hh 4).trans rfl
  have k5 := (blk_cell hh 5).trans rfl
  have HC := Aside0.mk (And.intro hz (And.intro hh (And.intro hF (And.intro hS0 (And.intro hY0 (And.intro hb (And.intro hrw hr0)))))))
  clear hz hh hF hS0 hY0 hb hrw hr0
  go_wp2_with fail
  obtain ⟨hz, hh, hF, hS0, hY0, hb, hrw, hr0⟩ := HC.out
  clear HC k0 k1 k2 k3 k4 k5
  obtain ⟨X1, hX1⟩ : ∃ X1, X1 = x0.alloc (.cells #[.int .i64 3, .int .u32 (rA s).1, .int .u32 0, .int .u32 0, .int .u32 0, .int .i64 0, .int .i64 0, .bool false, .slice none 0 0] 56) := ⟨_, rfl⟩
  rw [← hX1]
  have hbX1 : Below x0.heap.size x0 X1 := by rw [hX1]; exact below_alloc (Below.refl _ _) _
  have hm : X1.heap[x0.heap.size]? = some (.cells #[.int .i64 3, .int .u32 (rA s).1, .int .u32 0, .int .u32 0, .int .u32 0, .int .i64 0, .int .i64 0, .bool false, .slice none 0 0] 56 (0, 0)) := by rw [hX1]; exact heap_alloc_new _ _
  obtain ⟨q, hq⟩ : ∃ q, q = x0.heap.size := ⟨_, rfl⟩
  rw [← hq] at hm hpx ⊢
  have hz := blk_below hz hbX1
  have hh := blk_below hh hbX1
  have hF := hF.trans (Fr.below hbX1)
  have hS := hS0.below hbX1
  have hY := hY0
  have hrq : r < q := by omega
  clear hX1 hbX1 hS0 hY0 hq
  refine (addr_rd w0 X1 r (rA s).2 hS hY).mono ?_
  rintro e x1 ⟨rfl, hS1, hF1⟩
  have hz := hF1.blk (show b ≠ r by omega) hz
  have hh := hF1.blk (show p ≠ r by omega) hh
  have hm := hF1.blk (show q ≠ r by omega) hm
  have hF := hF.trans hF1
  have hY := rA_byt _ hY
  have hS := hS1
  clear hF1 hS1
  have k0 := (blk_cell hh 0).trans rfl
  have k1 := (blk_cell hh 1).trans rfl
  have k2 := (blk_cell hh 2).trans rfl
  have k3 := (blk_cell hh 3).trans rfl
  have k4 := (blk_cell hh 4).trans rfl
  have k5 := (blk_cell hh 5).trans rfl
  have m0 := (blk_cell hm 0).trans rfl
  have m1 := (blk_cell hm 1).trans rfl
  have m2 := (blk_cell hm 2).trans rfl
  have m3 := (blk_cell hm 3).trans rfl
  have m4 := (blk_cell hm 4).trans rfl
  have m5 := (blk_cell hm 5).trans rfl
  have m6 := (blk_cell hm 6).trans rfl
  have m7 := (blk_cell hm 7).trans rfl
  have m8 := (blk_cell hm 8).trans rfl
  have z0 := (blk_cell hz 0).trans rfl
  have z1 := (blk_cell hz 1).trans rfl
  have z2 := (blk_cell hz 2).trans rfl
  have z3 := (blk_cell hz 3).trans rfl
  have z4 := (blk_cell hz 4).trans rfl
  have z5 := (blk_cell hz 5).trans rfl
  have z6 := (blk_cell hz 6).trans rfl
  have z7 := (blk_cell hz 7).trans rfl
  have z8 := (blk_cell hz 8).trans rfl
  have fm := blk_frozen hm
  have fz := blk_frozen hz
  have hpx1 : q < x1.heap.size := (Array.getElem?_eq_some_iff.1 hm).1
  have HC := Aside0.mk (And.intro hz (And.intro hh (And.intro hm (And.intro hF (And.intro hS (And.intro hY (And.intro hb (And.intro hrw hr0))))))))
  clear hz hh hm hF hS hY hb hrw hr0
  go_wp2_with fail
  obtain ⟨hz, hh, hm, hF, hS, hY, hb, hrw, hr0⟩ := HC.out
  clear HC k0 k1 k2 k3 k4 k5 m0 m1 m2 m3 m4 m5 m6 m7 m8 z0 z1 z2 z3 z4 z5 z6 z7 z8 fm fz
  obtain ⟨X2, hX2⟩ : ∃ X2, X2 = x1.setCell ⟨q, 3, none⟩ (.int .u32 (rA (rA s).2).1) := ⟨_, rfl⟩
  rw [← hX2]
  have hz : X2.heap[b]? = some (.cells #[.int .i64 0, .int .u32 0, .int .u32 0, .int .u32 0, .int .u32 0, .int .i64 0, .int .i64 0, .bool false, .slice none 0 0] 56 (0, 0)) := by rw [hX2]; exact blk_far hz (show b ≠ q by omega) _
  have hh : X2.heap[p]? = some (.cells #[.bool false, .bool true, .bool true, .bool false, .bool true, .bool false] 86 (0, 0)) := by rw [hX2]; exact blk_far hh (show p ≠ q by omega) _
  have hm : X2.heap[q]? = some (.cells #[.int .i64 3, .int .u32 (rA s).1, .int .u32 0, .int .u32 (rA (rA s).2).1, .int .u32 0, .int .i64 0, .int .i64 0, .bool false, .slice none 0 0] 56 (0, 0)) := by rw [hX2]; exact (blk_set hm 3 _).trans rfl
  have hF : Fr r w X2 := by rw [hX2]; exact hF.setNew q 3 _ (by omega)
  have hS : RS w0 X2 r (rA (rA s).2).2 := by rw [hX2]; exact hS.set q 3 _ (by omega) (by omega)
  clear hX2
  refine (addr_rd w0 X2 r (rA (rA s).2).2 hS hY).mono ?_
  rintro e x2 ⟨rfl, hS2, hF2⟩
  have hz := hF2.blk (show b ≠ r by omega) hz
  have hh := hF2.blk (show p ≠ r by omega) hh
  have hm := hF2.blk (show q ≠ r by omega) hm
  have hF := hF.trans hF2
  have hY := rA_byt _ hY
  have hS := hS2
  clear hF2 hS2
  have k0 := (blk_cell hh 0).trans rfl
  have k1 := (blk_cell hh 1).trans rfl
  have k2 := (blk_cell hh 2).trans rfl
  have k3 := (blk_cell hh 3).trans rfl
  have k4 := (blk_cell hh 4).trans rfl
  have k5 := (blk_cell hh 5).trans rfl
  have m0 := (blk_cell hm 0).trans rfl
  have m1 := (blk_cell hm 1).trans rfl
  have m2 := (blk_cell hm 2).trans rfl
  have m3 := (blk_cell hm 3).trans rfl
  have m4 := (blk_cell hm 4).trans rfl
  have m5 := (blk_cell hm 5).trans rfl
  have m6 := (blk_cell hm 6).trans rfl
  have m7 := (blk_cell hm 7).trans rfl
  have m8 := (blk_cell hm 8).trans rfl
  have z0 := (blk_cell hz 0).trans rfl
  have z1 := (blk_cell hz 1).trans rfl
  have z2 := (blk_cell hz 2).trans rfl
  have z3 := (blk_cell hz 3).trans rfl
  have z4 := (blk_cell hz 4).trans rfl
  have z5 := (blk_cell hz 5).trans rfl
  have z6 := (blk_cell hz 6).trans rfl
  have z7 := (blk_cell hz 7).trans rfl
  have z8 := (blk_cell hz 8).trans rfl
  have fm := blk_frozen hm
  have fz := blk_frozen hz
  have hpx2 : q < x2.heap.size := (Array.getElem?_eq_some_iff.1 hm).1
  have HC := Aside0.mk (And.intro hz (And.intro hh (And.intro hm (And.intro hF (And.intro hS (And.intro hY (And.intro hb (And.intro hrw hr0))))))))
  clear hz hh hm hF hS hY hb hrw hr0
  go_wp2_with fail
  obtain ⟨hz, hh, hm, hF, hS, hY, hb, hrw, hr0⟩ := HC.out
  clear HC k0 k1 k2 k3 k4 k5 m0 m1 m2 m3 m4 m5 m6 m7 m8 z0 z1 z2 z3 z4 z5 z6 z7 z8 fm fz
  obtain ⟨X3, hX3⟩ : ∃ X3, X3 = x2.setCell ⟨q, 4, none⟩ (.int .u32 (rA (rA (rA s).2).2).1) := ⟨_, rfl⟩
  rw [← hX3]
  have hz : X3.heap[b]? = some (.cells #[.int .i64 0, .int .u32 0, .int .u32 0, .int .u32 0, .int .u32 0, .int .i64 0, .int .i64 0, .bool false, .slice none 0 0] 56 (0, 0)) := by rw [hX3]; exact blk_far hz (show b ≠ q by omega) _
  have hh : X3.heap[p]? = some (.cells #[.bool false, .bool true, .bool true, .bool false, .bool true, .bool false] 86 (0, 0)) := by rw [hX3]; exact blk_far hh (show p ≠ q by omega) _
  have hm : X3.heap[q]? = some (.cells #[.int .i64 3, .int .u32 (rA s).1, .int .u32 0, .int .u32 (rA (rA s).2).1, .int .u32 (rA (rA (rA s).2).2).1, .int .i64 0, .int .i64 0, .bool false, .slice none 0 0] 56 (0, 0)) := by rw [hX3]; exact (blk_set hm 4 _).trans rfl
  have hF : Fr r w X3 := by rw [hX3]; exact hF.setNew q 4 _ (by omega)
  have hS : RS w0 X3 r (rA (rA (rA s).2).2).2 := by rw [hX3]; exact hS.set q 4 _ (by omega) (by omega)
  clear hX3
  refine (num_rd w0 X3 r (rA (rA (rA s).2).2).2 hS hY).mono ?_
  rintro e x3 ⟨rfl, hS3, hF3⟩
  have hz := hF3.blk (show b ≠ r by omega) hz
  have hh := hF3.blk (show p ≠ r by omega) hh
  have hm := hF3.blk (show q ≠ r by omega) hm
  have hF := hF.trans hF3
  have hY := rN_byt _ hY
  have hS := hS3
  clear hF3 hS3
  have k0 := (blk_cell hh 0).trans rfl
  have k1 := (blk_cell hh 1).trans rfl
  have k2 := (blk_cell hh 2).trans rfl
  have k3 := (blk_cell hh 3).trans rfl
  have k4 := (blk_cell hh 4).trans rfl
  have k5 := (blk_cell hh 5).trans rfl
  have m0 := (blk_cell hm 0).trans rfl
  have m1 := (blk_cell hm 1).trans rfl
  have m2 := (blk_cell hm 2).trans rfl
  have m3 := (blk_cell hm 3).trans rfl
  have m4 := (blk_cell hm 4).trans rfl
  have m5 := (blk_cell hm 5).trans rfl
  have m6 := (blk_cell hm 6).trans rfl
  have m7 := (blk_cell hm 7).trans rfl
  have m8 := (blk_cell hm 8).trans rfl
  have z0 := (blk_cell hz 0).trans rfl
  have z1 := (blk_cell hz 1).trans rfl
  have z2 := (blk_cell hz 2).trans rfl
  have z3 := (blk_cell hz 3).trans rfl
  have z4 := (blk_cell hz 4).trans rfl
  have z5 := (blk_cell hz 5).trans rfl
  have z6 := (blk_cell hz 6).trans rfl
  have z7 := (blk_cell hz 7).trans rfl
  have z8 := (blk_cell hz 8).trans rfl
  have fm := blk_frozen hm
  have fz := blk_frozen hz
  have hpx3 : q < x3.heap.size := (Array.getElem?_eq_some_iff.1 hm).1
  have HC := Aside0.mk (And.intro hz (And.intro hh (And.intro hm (And.intro hF (And.intro hS (And.intro hY (And.intro hb (And.intro hrw hr0))))))))
  clear hz hh hm hF hS hY hb hrw hr0
  go_wp2
  obtain ⟨hz, hh, hm, hF, hS, hY, hb, hrw, hr0⟩ := HC.out
  refine bodyPost_ret (results_cell_row2 rfl _ _ b 56 #[.int .i64 3, .int .u32 (rA s).1, .int .u32 0, .int .u32 (rA (rA s).2).1, .int .u32 (rA (rA (rA s).2).2).1, .int .i64 0, .int .i64 (rN (rA (rA (rA s).2).2).2).1, .bool false, .slice none 0 0] (0, 0) _ rfl (blk_put9 (blk_far hz (show b ≠ q by omega) _)) hu2 rfl (by kernel_rfl)) rfl ?_
  refine ⟨rfl, ?_, ?_⟩
  · repeat' (first | (refine RS.set ?_ _ _ _ (by omega) (by omega)) | exact hS)
  · repeat' (first | (refine Fr.setNew ?_ _ _ _ (by omega)) | exact hF)
set_option maxHeartbeats 2000000 in
set_option maxRecDepth 100000 in
theorem rmsg5 (w0 w : World) (r : Nat) (s : List Int × Bool) (h : RS w0 w r s) (hby : Byt s.1) :
    Calls Tryd.prog 58 #[.pointer (some ⟨r, 0, none⟩), .int .i64 5] w fun e w' => e = .returned (.tuple #[.agg #[.int .i64 5, .int .u32 (rA s).1, .int .u32 0, .int .u32 0, .int .u32 (rA (rA s).2).1, .int .i64 0, .int .i64 0, .bool false, .slice none 0 0], .int .u8 0]) ∧ RS w0 w' r (rA (rA s).2).2 ∧ Fr r w w' := by
  have hu2 := Tryd.underlying56
  have hu3 := Tryd.underlying53
  have hu4 := Tryd.underlying86
  have hrw : r < w.heap.size := by obtain ⟨⟨A, n, c, hr, _, _⟩, _, _⟩ := h; exact (Array.getElem?_eq_some_iff.1 hr).1
  have hr0 := h.hr
  have HS := Aside0.mk (And.intro h hby)
  clear h hby
  go_enter Tryd.func58, Tryd.ntmps58
  go_wp2_with fail
  refine (of_5 _).mono ?_
  rintro e w1 ⟨rfl, hw1⟩
  have hb1 : Below w.heap.size w w1 := by rw [hw1]; exact below_alloc (below_alloc (Below.refl _ _) _) _
  have hz : w1.heap[w.heap.size]? = some (.cells #[.int .i64 0, .int .u32 0, .int .u32 0, .int .u32 0, .int .u32 0, .int .i64 0, .int .i64 0, .bool false, .slice none 0 0] 56 (0, 0)) := by rw [hw1]; exact blk_alloc (heap_alloc_new w _) _
  clear hw1
  obtain ⟨b, hb⟩ : ∃ b, b = w.heap.size := ⟨_, rfl⟩
  rw [← hb] at hz ⊢
  have HB := Aside0.mk (And.intro hb (And.intro hb1 (And.intro hz (And.intro hrw hr0))))
  have hbw : b < w1.heap.size := (Array.getElem?_eq_some_iff.1 hz).1
  clear hb hb1 hz hrw hr0
  go_wp2_with fail
  obtain ⟨hb, hb1, hz, hrw, hr0⟩ := HB.out
  clear HB
  obtain ⟨X, hX⟩ : ∃ X, X = w1.alloc (.cells #[.bool false, .bool false, .bool true, .bool false, .bool false, .bool false] 86) := ⟨_, rfl⟩
  rw [← hX]
  have hbX : Below w1.heap.size w1 X := by rw [hX]; exact below_alloc (Below.refl _ _) _
  have hh : X.heap[w1.heap.size]? = some (.cells #[.bool false, .bool false, .bool true, .bool false, .bool false, .bool false] 86 (0, 0)) := by rw [hX]; exact heap_alloc_new _ _
  obtain ⟨p, hp⟩ : ∃ p, p = w1.heap.size := ⟨_, rfl⟩
  rw [← hp] at hh ⊢
  have hz := blk_below hz hbX
  have hbXw : Below w.heap.size w X := reach_to hb1 hb1.size hbX
  have hF := Fr.below (r := r) hbXw
  clear hX hb1
  refine (addr_rd w0 X r s (HS.out.1.below hbXw) HS.out.2).mono ?_
  rintro e x0 ⟨rfl, hS0, hF0⟩
  have hz := hF0.blk (show b ≠ r by omega) hz
  have hh := hF0.blk (show p ≠ r by omega) hh
  have hF := hF.trans hF0
  have hY0 := rA_byt s HS.out.2
  have hbp : b < p := by omega
  have hpx : p < x0.heap.size := (Array.getElem?_eq_some_iff.1 hh).1
  clear hF0 hbX hbXw hbw hp
  have k0 := (blk_cell hh 0).trans rfl
  have k1 := (blk_cell hh 1).trans rfl
  have k2 := (blk_cell hh 2).trans rfl
  have k3 := (blk_cell hh 3).trans rfl
  have k4 := (blk_cell hh 4).trans rfl
  have k5 := (blk_cell hh 5).trans rfl
  have HC := Aside0.mk (And.intro hz (And.intro hh (And.intro hF (And.intro hS0 (And.intro hY0 (And.intro hb (And.intro hrw hr0)))))))
  clear hz hh hF hS0 hY0 hb hrw hr0
  go_wp2_with fail
  obtain ⟨hz, hh, hF, hS0, hY0, hb, hrw, hr0⟩ := HC.out
  clear HC k0 k1 k2 k3 k4 k5
  obtain ⟨X1, hX1⟩ : ∃ X1, X1 = x0.alloc (.cells #[.int .i64 5, .int .u32 (rA s).1, .int .u32 0, .int .u32 0, .int .u32 0, .int .i64 0, .int .i64 0, .bool false, .slice none 0 0] 56) := ⟨_, rfl⟩
  rw [← hX1]
  have hbX1 : Below x0.heap.size x0 X1 := by rw [hX1]; exact below_alloc (Below.refl _ _) _
  have hm : X1.heap[x0.heap.size]? = some (.cells #[.int .i64 5, .int .u32 (rA s).1, .int .u32 0, .int .u32 0, .int .u32 0, .int .i64 0, .int .i64 0, .bool false, .slice none 0 0] 56 (0, 0)) := by rw [hX1]; exact heap_alloc_new _ _
  obtain ⟨q, hq⟩ : ∃ q, q = x0.heap.size := ⟨_, rfl⟩
  rw [← hq] at hm hpx ⊢
  have hz := blk_below hz hbX1
  have hh := blk_below hh hbX1
  have hF := hF.trans (Fr.below hbX1)
  have hS := hS0.below hbX1
  have hY := hY0
  have hrq : r < q := by omega
  clear hX1 hbX1 hS0 hY0 hq
  refine (addr_rd w0 X1 r (rA s).2 hS hY).mono ?_
  rintro e x1 ⟨rfl, hS1, hF1⟩
  have hz := hF1.blk (show b ≠ r by omega) hz
  have hh := hF1.blk (show p ≠ r by omega) hh
  have hm := hF1.blk (show q ≠ r by omega) hm
  have hF := hF.trans hF1
  have hY := rA_byt _ hY
  have hS := hS1
  clear hF1 hS1
  have k0 := (blk_cell hh 0).trans rfl
  have k1 := (blk_cell hh 1).trans rfl
  have k2 := (blk_cell hh 2).trans rfl
  have k3 := (blk_cell hh 3).trans rfl
  have k4 := (blk_cell hh 4).trans rfl
  have k5 := (blk_cell hh 5).trans rfl
  have m0 := (blk_cell hm 0).trans rfl
  have m1 := (blk_cell hm 1).trans rfl
  have m2 := (blk_cell hm 2).trans rfl
  have m3 := (blk_cell hm 3).trans rfl
  have m4 := (blk_cell hm 4).trans rfl
  have m5 := (blk_cell hm 5).trans rfl
  have m6 := (blk_cell hm 6).trans rfl
  have m7 := (blk_cell hm 7).trans rfl
  have m8 := (blk_cell hm 8).trans rfl
  have z0 := (blk_cell hz 0).trans rfl
  have z1 := (blk_cell hz 1).trans rfl
  have z2 := (blk_cell hz 2).trans rfl
  have z3 := (blk_cell hz 3).trans rfl
  have z4 := (blk_cell hz 4).trans rfl
  have z5 := (blk_cell hz 5).trans rfl
  have z6 := (blk_cell hz 6).trans rfl
  have z7 := (blk_cell hz 7).trans rfl
  have z8 := (blk_cell hz 8).trans rfl
  have fm := blk_frozen hm
  have fz := blk_frozen hz
  have hpx1 : q < x1.heap.size := (Array.getElem?_eq_some_iff.1 hm).1
  have HC := Aside0.mk (And.intro hz (And.intro hh (And.intro hm (And.intro hF (And.intro hS (And.intro hY (And.intro hb (And.intro hrw hr0))))))))
  clear hz hh hm hF hS hY hb hrw hr0
  go_wp2
  obtain ⟨hz, hh, hm, hF, hS, hY, hb, hrw, hr0⟩ := HC.out
  refine bodyPost_ret (results_cell_row2 rfl _ _ b 56 #[.int .i64 5, .int .u32 (rA s).1, .int .u32 0, .int .u32 0, .int .u32 (rA (rA s).2).1, .int .i64 0, .int .i64 0, .bool false, .slice none 0 0] (0, 0) _ rfl (blk_put9 (blk_far hz (show b ≠ q by omega) _)) hu2 rfl (by kernel_rfl)) rfl ?_
  refine ⟨rfl, ?_, ?_⟩
  · repeat' (first | (refine RS.set ?_ _ _ _ (by omega) (by omega)) | exact hS)
  · repeat' (first | (refine Fr.setNew ?_ _ _ _ (by omega)) | exact hF)
end Go.Proofs.YtbgbplbkombfjaaDoor
