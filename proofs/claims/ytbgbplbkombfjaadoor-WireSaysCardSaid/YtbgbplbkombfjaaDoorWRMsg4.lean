/- wire.reader: msg, kind 4. -/
import Derived.Test.YtbgbplbkombfjaaDoorWRMsg
import Derived.Test.YtbgbplbkombfjaaDoorWBackP
namespace Go.Proofs.YtbgbplbkombfjaaDoor
open Go.RowKit Go.Proofs.YtbgbplbkombfjaaDoorW.PrintWords SumPlain
set_option linter.unusedVariables false
set_option linter.unusedSimpArgs false
attribute [local go_sem] setCell_drewN alloc_drewN
theorem RS.belowB {w0 w w' : World} {r B : Nat} {s : List Int × Bool} (h : RS w0 w r s) (hb : Below B w w') (hr : r < B) : RS w0 w' r s := by
  obtain ⟨⟨A, n, c, hq, hle, hC⟩, hB, hlt⟩ := h
  exact ⟨⟨A, n, c, (hb.block r hr).trans hq, hle, hC⟩, hB.trans ⟨hb.os, hb.tape, hb.output, hb.size, fun i hi => hb.block i (by omega)⟩, hlt⟩
theorem Fr.belowB {r B : Nat} {w w1 w2 : World} (h : Fr r w w1) (hb : Below B w1 w2) (hB : w.heap.size ≤ B) : Fr r w w2 :=
  ⟨Nat.le_trans h.1 hb.size, fun g hg hn => (hb.block g (by omega)).trans (h.2 g hg hn)⟩
theorem rLs_snoc : ∀ (j : Nat) (s : List Int × Bool), rLs (j + 1) s = ((rLs j s).1 ++ [(rA (rLs j s).2).1], (rA (rLs j s).2).2)
  | 0, s => rfl
  | j + 1, s => by
    have ih := rLs_snoc j (rA s).2
    have e : rLs (j + 1 + 1) s = ((rA s).1 :: (rLs (j + 1) (rA s).2).1, (rLs (j + 1) (rA s).2).2) := rfl
    rw [e, ih]; rfl
theorem app_row_ok {P : Program} {ops : Array Oper} {o : Oper} {a : Act} {Q : Exit → Act → World → Prop} {Kc : Act → World → Prop} {k : IntKind} {w0 W : World} (base : Nat) (ok : Nat → Prop) (hfresh : ∀ k, W.heap.size ≤ k → ok k) (hw : Region.wanted o (yielded ops a.tmps) = true) (s x : Operand) (t e : TypeId) (bytes : Nat)
    (ho : o.op = .call { callee := .builtin .append, args := #[s, x], argTypes := #[t, t] })
    (ht : P.underlying t = some (.slice e)) (hinfo : (P.info? e).map (fun i => (i.zero, i.size, i.bytes)) = some (some (.int k 0), 1, bytes)) (hb0 : 0 < bytes)
    (v : Value) (xs ys : List Int) (A : Option Addr) (m c : Nat) (hs : a.eval s = v) (hx : a.eval x = .slice A m c)
    (HO : (Kd.int k).R e W base ok v xs) (HR : (Kd.int k).C W A m ys)
    (HB : Below base w0 W) (hbase : base ≤ W.heap.size) (hl : (xs.length + m) * bytes ≤ 140737488355328)
    (h : ∀ v1 w1, (Kd.int k).R e w1 base ok v1 (xs ++ ys) → Below base w0 w1 → Kc (a.put o.dst v1) w1) :
    if Region.wanted o (yielded ops a.tmps) = true then Oper.wp P o a W Kc Q else Kc (a.put o.dst undef) W :=
  Kd.R_append_rows_step (Kd.int k) (w0 := w0) base hw s x t e (.int k 0) bytes ho ht hinfo rfl Nat.one_pos hb0 v xs ys A m c ok (fun _ => False) hs hx HO HR (fun _ _ h => h) (fun _ h => h.elim) (fun j hj => hfresh j hj) HB hbase hl (fun v1 w1 h1 h2 _ _ => h v1 w1 h1 h2)
theorem Tryd.infoAd : (Tryd.prog.info? 23).map (fun i => (i.zero, i.size, i.bytes)) = some (some (.int .u32 0), 1, 4) := by kernel_rfl
theorem u8_next (j : Nat) (h : j < 255) : IntKind.u8.wrap ((j : Int) + 1) = ((j + 1 : Nat) : Int) := by
  simp [IntKind.wrap, IntKind.signed, IntKind.bits]; omega
set_option maxHeartbeats 8000000 in
set_option maxRecDepth 100000 in
theorem rmsg4 (w0 w : World) (r : Nat) (s : List Int × Bool) (h : RS w0 w r s) (hby : Byt s.1) :
    Calls Tryd.prog 58 #[.pointer (some ⟨r, 0, none⟩), .int .i64 4] w fun e w' => ∃ v, e = .returned (.tuple #[.agg #[.int .i64 4, .int .u32 (rA s).1, .int .u32 0, .int .u32 0, .int .u32 (rA (rA s).2).1, .int .i64 0, .int .i64 0, .bool (decide ((rB (rA (rA s).2).2).1 = 1)), v], .int .u8 (rB (rA (rA s).2).2).1]) ∧ (Kd.int .u32).R 23 w' w.heap.size (fun i => w.heap.size ≤ i) v (rLs ((rB (rB (rA (rA s).2).2).2).1).toNat (rB (rB (rA (rA s).2).2).2).2).1 ∧ RS w0 w' r (rLs ((rB (rB (rA (rA s).2).2).2).1).toNat (rB (rB (rA (rA s).2).2).2).2).2 ∧ Fr r w w' := by
  have hu2 := Tryd.underlying56
  have hu3 := Tryd.underlying53
  have hu4 := Tryd.underlying86
  have hrw : r < w.heap.size := by obtain ⟨⟨A, n, c, hr, _, _⟩, _, _⟩ := h; exact (Array.getElem?_eq_some_iff.1 hr).1
  have hr0 := h.hr
  have HS := Aside0.mk (And.intro h hby)
  clear h hby
  go_enter Tryd.func58, Tryd.ntmps58
  go_wp2_with fail
  refine (of_4 _).mono ?_
  rintro e w1 ⟨rfl, hw1⟩
  have hb1 : Below w.heap.size w w1 := by rw [hw1]; exact below_alloc (below_alloc (Below.refl _ _) _) _
  have hz : w1.heap[w.heap.size]? = some (.cells #[.int .i64 0, .int .u32 0, .int .u32 0, .int .u32 0, .int .u32 0, .int .i64 0, .int .i64 0, .bool false, .slice none 0 0] 56 (0, 0)) := by rw [hw1]; exact blk_alloc (heap_alloc_new w _) _
  clear hw1
  obtain ⟨b, hb⟩ : ∃ b, b = w.heap.size := ⟨_, rfl⟩
  rw [← hb] at hz ⊢
  have HB := Aside0.mk (And.intro hb (And.intro hb1 (And.intro hz (And.intro hrw hr0))))
  have hbw : b < w1.heap.size := (Array.getElem?_eq_some_iff.1 hz).1
  clear hb hb1 hz hrw hr0
  go_wp2_with fail
  obtain ⟨hb, hb1, hz, hrw, hr0⟩ := HB.out
  clear HB
  obtain ⟨X, hX⟩ : ∃ X, X = w1.alloc (.cells #[.bool false, .bool false, .bool true, .bool false, .bool false, .bool true] 86) := ⟨_, rfl⟩
  rw [← hX]
  have hbX : Below w1.heap.size w1 X := by rw [hX]; exact below_alloc (Below.refl _ _) _
  have hh : X.heap[w1.heap.size]? = some (.cells #[.bool false, .bool false, .bool true, .bool false, .bool false, .bool true] 86 (0, 0)) := by rw [hX]; exact heap_alloc_new _ _
  obtain ⟨p, hp⟩ : ∃ p, p = w1.heap.size := ⟨_, rfl⟩
  rw [← hp] at hh ⊢
  have hz := blk_below hz hbX
  have hbXw : Below w.heap.size w X := reach_to hb1 hb1.size hbX
  have hF := Fr.below (r := r) hbXw
  clear hX hb1
  refine (addr_rd w0 X r s (HS.out.1.below hbXw) HS.out.2).mono ?_
  rintro e x0 ⟨rfl, hS0, hF0⟩
  have hz := hF0.blk (show b ≠ r by omega) hz
  have hh := hF0.blk (show p ≠ r by omega) hh
  have hF := hF.trans hF0
  have hY0 := rA_byt s HS.out.2
  have hbp : b < p := by omega
  have hpx : p < x0.heap.size := (Array.getElem?_eq_some_iff.1 hh).1
  clear hF0 hbX hbXw hbw hp
  have k0 := (blk_cell hh 0).trans rfl
  have k1 := (blk_cell hh 1).trans rfl
  have k2 := (blk_cell hh 2).trans rfl
  have k3 := (blk_cell hh 3).trans rfl
  have k4 := (blk_cell hh 4).trans rfl
  have k5 := (blk_cell hh 5).trans rfl
  have HC := Aside0.mk (And.intro hz (And.intro hh (And.intro hF (And.intro hS0 (And.intro hY0 (And.intro hb (And.intro hrw hr0)))))))
  clear hz hh hF hS0 hY0 hb hrw hr0
  go_wp2_with fail
  obtain ⟨hz, hh, hF, hS0, hY0, hb, hrw, hr0⟩ := HC.out
  clear HC k0 k1 k2 k3 k4 k5
  obtain ⟨X1, hX1⟩ : ∃ X1, X1 = x0.alloc (.cells #[.int .i64 4, .int .u32 (rA s).1, .int .u32 0, .int .u32 0, .int .u32 0, .int .i64 0, .int .i64 0, .bool false, .slice none 0 0] 56) := ⟨_, rfl⟩
  rw [← hX1]
  have hbX1 : Below x0.heap.size x0 X1 := by rw [hX1]; exact below_alloc (Below.refl _ _) _
  have hm : X1.heap[x0.heap.size]? = some (.cells #[.int .i64 4, .int .u32 (rA s).1, .int .u32 0, .int .u32 0, .int .u32 0, .int .i64 0, .int .i64 0, .bool false, .slice none 0 0] 56 (0, 0)) := by rw [hX1]; exact heap_alloc_new _ _
  obtain ⟨q, hq⟩ : ∃ q, q = x0.heap.size := ⟨_, rfl⟩
  rw [← hq] at hm hpx ⊢
  have hz := blk_below hz hbX1
  have hh := blk_below hh hbX1
  have hF := hF.trans (Fr.below hbX1)
  have hS := hS0.below hbX1
  have hY := hY0
  have hrq : r < q := by omega
  clear hX1 hbX1 hS0 hY0 hq
  refine (addr_rd w0 X1 r (rA s).2 hS hY).mono ?_
  rintro e x1 ⟨rfl, hS1, hF1⟩
  have hz := hF1.blk (show b ≠ r by omega) hz
  have hh := hF1.blk (show p ≠ r by omega) hh
  have hm := hF1.blk (show q ≠ r by omega) hm
  have hF := hF.trans hF1
  have hY := rA_byt _ hY
  have hS := hS1
  clear hF1 hS1
  have k0 := (blk_cell hh 0).trans rfl
  have k1 := (blk_cell hh 1).trans rfl
  have k2 := (blk_cell hh 2).trans rfl
  have k3 := (blk_cell hh 3).trans rfl
  have k4 := (blk_cell hh 4).trans rfl
  have k5 := (blk_cell hh 5).trans rfl
  have m0 := (blk_cell hm 0).trans rfl
  have m1 := (blk_cell hm 1).trans rfl
  have m2 := (blk_cell hm 2).trans rfl
  have m3 := (blk_cell hm 3).trans rfl
  have m4 := (blk_cell hm 4).trans rfl
  have m5 := (blk_cell hm 5).trans rfl
  have m6 := (blk_cell hm 6).trans rfl
  have m7 := (blk_cell hm 7).trans rfl
  have m8 := (blk_cell hm 8).trans rfl
  have fm := blk_frozen hm
  have hpx1 : q < x1.heap.size := (Array.getElem?_eq_some_iff.1 hm).1
  have HC := Aside0.mk (And.intro hz (And.intro hh (And.intro hm (And.intro hF (And.intro hS (And.intro hY (And.intro hb (And.intro hrw hr0))))))))
  clear hz hh hm hF hS hY hb hrw hr0
  go_wp2_with fail
  obtain ⟨hz, hh, hm, hF, hS, hY, hb, hrw, hr0⟩ := HC.out
  clear HC k0 k1 k2 k3 k4 k5 m0 m1 m2 m3 m4 m5 m6 m7 m8 fm
  obtain ⟨X2, hX2⟩ : ∃ X2, X2 = x1.setCell ⟨q, 4, none⟩ (.int .u32 (rA (rA s).2).1) := ⟨_, rfl⟩
  rw [← hX2]
  have hz : X2.heap[b]? = some (.cells #[.int .i64 0, .int .u32 0, .int .u32 0, .int .u32 0, .int .u32 0, .int .i64 0, .int .i64 0, .bool false, .slice none 0 0] 56 (0, 0)) := by rw [hX2]; exact blk_far hz (show b ≠ q by omega) _
  have hh : X2.heap[p]? = some (.cells #[.bool false, .bool false, .bool true, .bool false, .bool false, .bool true] 86 (0, 0)) := by rw [hX2]; exact blk_far hh (show p ≠ q by omega) _
  have hm : X2.heap[q]? = some (.cells #[.int .i64 4, .int .u32 (rA s).1, .int .u32 0, .int .u32 0, .int .u32 (rA (rA s).2).1, .int .i64 0, .int .i64 0, .bool false, .slice none 0 0] 56 (0, 0)) := by rw [hX2]; exact (blk_set hm 4 _).trans rfl
  have hF : Fr r w X2 := by rw [hX2]; exact hF.setNew q 4 _ (by omega)
  have hS : RS w0 X2 r (rA (rA s).2).2 := by rw [hX2]; exact hS.set q 4 _ (by omega) (by omega)
  clear hX2
  refine (next1 w0 X2 r (rA (rA s).2).2 hS).mono ?_
  rintro e x2 ⟨A, c, rfl, hc, hC, hS, hF2⟩
  have hz := hF2.blk (show b ≠ r by omega) hz
  have hh := hF2.blk (show p ≠ r by omega) hh
  have hm := hF2.blk (show q ≠ r by omega) hm
  have hF := hF.trans hF2
  obtain ⟨k0, k0'⟩ := byt_getD (nx_byt 1 _ hY).1 0
  have hY := rB_byt _ hY
  obtain ⟨ad, b0, rfl, _, _⟩ := at_nat hC 0 (by omega)
  have q0 := cell0_of hC (by omega)
  have hw2 : (nx 1 (rA (rA s).2).2).1.getD 0 0 = (rB (rA (rA s).2).2).1 := rfl
  generalize hob : (nx 1 (rA (rA s).2).2).1.getD 0 0 = ob at *
  have HOB := Aside0.mk hw2
  clear hw2 hob hF2 hC
  have hpx2 : q < x2.heap.size := (Array.getElem?_eq_some_iff.1 hm).1
  have m0 := (blk_cell hm 0).trans rfl
  have m1 := (blk_cell hm 1).trans rfl
  have m2 := (blk_cell hm 2).trans rfl
  have m3 := (blk_cell hm 3).trans rfl
  have m4 := (blk_cell hm 4).trans rfl
  have m5 := (blk_cell hm 5).trans rfl
  have m6 := (blk_cell hm 6).trans rfl
  have m7 := (blk_cell hm 7).trans rfl
  have m8 := (blk_cell hm 8).trans rfl
  have fm := blk_frozen hm
  have HC := Aside0.mk (And.intro hz (And.intro hh (And.intro hm (And.intro hF (And.intro hS (And.intro hY (And.intro hb (And.intro hrw hr0))))))))
  clear hz hh hm hF hS hY hb hrw hr0
  go_wp2_with fail
  obtain ⟨hz, hh, hm, hF, hS, hY, hb, hrw, hr0⟩ := HC.out
  clear HC m0 m1 m2 m3 m4 m5 m6 m7 m8 fm q0
  obtain ⟨X3, hX3⟩ : ∃ X3, X3 = x2.setCell ⟨q, 7, none⟩ (.bool (ob == 1)) := ⟨_, rfl⟩
  rw [← hX3]
  have hz : X3.heap[b]? = some (.cells #[.int .i64 0, .int .u32 0, .int .u32 0, .int .u32 0, .int .u32 0, .int .i64 0, .int .i64 0, .bool false, .slice none 0 0] 56 (0, 0)) := by rw [hX3]; exact blk_far hz (show b ≠ q by omega) _
  have hm : X3.heap[q]? = some (.cells #[.int .i64 4, .int .u32 (rA s).1, .int .u32 0, .int .u32 0, .int .u32 (rA (rA s).2).1, .int .i64 0, .int .i64 0, .bool (ob == 1), .slice none 0 0] 56 (0, 0)) := by rw [hX3]; exact (blk_set hm 7 _).trans rfl
  have hF : Fr r w X3 := by rw [hX3]; exact hF.setNew q 7 _ (by omega)
  have hS : RS w0 X3 r (rB (rA (rA s).2).2).2 := by rw [hX3]; exact hS.set q 7 _ (by omega) (by omega)
  clear hX3 hh
  refine (next1 w0 X3 r (rB (rA (rA s).2).2).2 hS).mono ?_
  rintro e x3 ⟨A, c, rfl, hc', hC, hS, hF3⟩
  have hz := hF3.blk (show b ≠ r by omega) hz
  have hm := hF3.blk (show q ≠ r by omega) hm
  have hF := hF.trans hF3
  obtain ⟨c0, c0'⟩ := byt_getD (nx_byt 1 _ hY).1 0
  have hY := rB_byt _ hY
  obtain ⟨ad3, b3, rfl, _, _⟩ := at_nat hC 0 (by omega)
  have q0 := cell0_of hC (by omega)
  have hw3 : (nx 1 (rB (rA (rA s).2).2).2).1.getD 0 0 = (rB (rB (rA (rA s).2).2).2).1 := rfl
  generalize hob : (nx 1 (rB (rA (rA s).2).2).2).1.getD 0 0 = cb at *
  obtain ⟨n, rfl⟩ := Int.eq_ofNat_of_zero_le c0
  have HCNT := Aside0.mk hw3
  have hn255 : n ≤ 255 := by omega
  clear hw3 hob hF3 hC c0
  have hpx3 : q < x3.heap.size := (Array.getElem?_eq_some_iff.1 hm).1
  have HC := Aside0.mk (And.intro hz (And.intro hm (And.intro hF (And.intro hS (And.intro hY (And.intro hb (And.intro hrw hr0)))))))
  clear hz hm hF hS hY hb hrw hr0
  go_wp2_with fail
  clear q0
  go_loopg [57] n (fun k v57 wr => ∃ (j : Nat) (v : Value), j + k = n ∧ v57 = .int .u8 j ∧ Aside0 ((Kd.int .u32).R 23 wr (q + 1) (fun i => q + 1 ≤ i) v (rLs j (rB (rB (rA (rA s).2).2).2).2).1 ∧ wr.heap[q]? = some (.cells #[.int .i64 4, .int .u32 (rA s).1, .int .u32 0, .int .u32 0, .int .u32 (rA (rA s).2).1, .int .i64 0, .int .i64 0, .bool (ob == 1), v] 56 (0, 0)) ∧ wr.heap[b]? = some (.cells #[.int .i64 0, .int .u32 0, .int .u32 0, .int .u32 0, .int .u32 0, .int .i64 0, .int .i64 0, .bool false, .slice none 0 0] 56 (0, 0)) ∧ RS w0 wr r (rLs j (rB (rB (rA (rA s).2).2).2).2).2 ∧ Fr r w wr ∧ Byt (rLs j (rB (rB (rA (rA s).2).2).2).2).2.1))
  case atStart => exact ⟨0, .slice none 0 0, by omega, rfl, ⟨Kd.R_nil _ _ _ _ _, HC.out.2.1, HC.out.1, HC.out.2.2.2.1, HC.out.2.2.1, HC.out.2.2.2.2.1⟩⟩
  case round =>
    obtain ⟨j, v, hj, rfl, HR⟩ := hrel
    by_cases hlt : j < n
    · have hu8 := u8_next j (by omega)
      have hqr : q ≠ r := by have := HC.out.2.2.2.2.2.2.1; omega
      have hbr : b ≠ r := by have := HC.out.2.2.2.2.2; omega
      have hbq' : b < q := by omega
      have HG := Aside0.mk (And.intro hqr (And.intro hbr (And.intro hbq' HC.out.2.2.2.2.2)))
      have HLX : Aside0 ((rLs (j + 1) (rB (rB (rA (rA s).2).2).2).2).1 = (rLs j (rB (rB (rA (rA s).2).2).2).2).1 ++ [(rA (rLs j (rB (rB (rA (rA s).2).2).2).2).2).1] ∧ (rLs (j + 1) (rB (rB (rA (rA s).2).2).2).2).2 = (rA (rLs j (rB (rB (rA (rA s).2).2).2).2).2).2) := ⟨by rw [rLs_snoc]; exact ⟨rfl, rfl⟩⟩
      have hm8 := (blk_cell HR.out.2.1 8).trans rfl
      have hqx : q < wr.heap.size := blk_lt HR.out.2.1
      have hrl : (rLs j (rB (rB (rA (rA s).2).2).2).2).1.length = j := (rLs_byt j _ HC.out.2.2.2.2.1).2.2
      have HRL := Aside0.mk hrl
      clear hrl hqr hbr hbq'
      go_wp2_with fail
      refine wp_region_held_drew (S := (fun _ => True)) (by kernel_rfl) trivial (fun hHeld => ?_)
      refine wpAnyH_take (i := 0) (v := ?_) rfl (by kernel_rfl) (by kernel_rfl) (by kernel_rfl) (fun _ _ _ h => h) (Or.inl ⟨by rfl, ?_⟩) trivial ?_
      rotate_left 1
      · intro w hSw; (try dsimp only at hSw); go_simp; try with_reducible rfl
      try simp only [Act.put, List.getElem_toArray, List.getElem_cons_zero, List.getElem_cons_succ, List.setIfInBounds_toArray, List.set_cons_zero, List.set_cons_succ]
      refine wpAnyH_take (i := 2) (v := ?_) rfl (by kernel_rfl) (by kernel_rfl) (by kernel_rfl) (fun _ _ _ h => h) (Or.inl ⟨by rfl, ?_⟩) trivial ?_
      rotate_left 1
      · intro w hSw; (try dsimp only at hSw); go_simp; try with_reducible rfl
      try simp only [Act.put, List.getElem_toArray, List.getElem_cons_zero, List.getElem_cons_succ, List.setIfInBounds_toArray, List.set_cons_zero, List.set_cons_succ]
      refine wpAnyH_ready (rs := [1, 3]) (by kernel_rfl) (by simp) ?_
      refine AllReadyH.cons rfl (fun K hK => ?_) ?_
      · go_simp
        refine hK.out _ _ trivial (fun hHeld => ?_)
        clear hK K hHeld
        try simp only [Act.put, List.getElem_toArray, List.getElem_cons_zero, List.getElem_cons_succ, List.setIfInBounds_toArray, List.set_cons_zero, List.set_cons_succ]
        refine wpAnyH_ready (rs := [3]) (by kernel_rfl) (by simp) ?_
        refine AllReadyH.cons rfl (fun K hK => ?_) ?_
        · go_simp
          refine (addr_rd w0 _ r (rLs j (rB (rB (rA (rA s).2).2).2).2).2 (HR.out.2.2.2.1.below (below_drew (Below.refl _ _))) HR.out.2.2.2.2.2).mono ?_
          rintro e wb ⟨rfl, hSb, hFb⟩
          have hmb := hFb.blk HG.out.1 (blk_below HR.out.2.1 (below_drew (Below.refl _ _)))
          have hkb : wb.cell? ⟨q, 8, none⟩ = some v := (blk_cell hmb 8).trans rfl
          have HB3 := Aside0.mk (And.intro hSb hFb)
          clear hSb hFb
          refine hK.out _ _ trivial (fun hHeld => ?_)
          clear hK K hHeld
          try simp only [Act.put, List.getElem_toArray, List.getElem_cons_zero, List.getElem_cons_succ, List.setIfInBounds_toArray, List.set_cons_zero, List.set_cons_succ]
          refine wpAnyH_ready (rs := [4]) (by kernel_rfl) (by simp) ?_
          refine AllReadyH.cons rfl (fun K hK => ?_) ?_
          · go_simp
            have hb4 := below_alloc (Below.refl wb.heap.size wb) (.cells #[.int .u32 (rA (rLs j (rB (rB (rA (rA s).2).2).2).2).2).1] 23)
            have hk4 : (wb.alloc (.cells #[.int .u32 (rA (rLs j (rB (rB (rA (rA s).2).2).2).2).2).1] 23)).cell? ⟨q, 8, none⟩ = some v := pw_cell_below hb4 hkb
            refine hK.out _ _ trivial (fun hHeld => ?_)
            clear hK K hHeld
            try simp only [Act.put, List.getElem_toArray, List.getElem_cons_zero, List.getElem_cons_succ, List.setIfInBounds_toArray, List.set_cons_zero, List.set_cons_succ]
            have hqx4 : q + 1 ≤ (wb.alloc (.cells #[.int .u32 (rA (rLs j (rB (rB (rA (rA s).2).2).2).2).2).1] 23)).heap.size := by have := blk_lt hmb; simp; omega
            have hm4 := blk_below hmb (below_alloc (Below.refl wb.heap.size wb) (.cells #[.int .u32 (rA (rLs j (rB (rB (rA (rA s).2).2).2).2).2).1] 23))
            have hz4 := blk_below (HB3.out.2.blk HG.out.2.1 (blk_below HR.out.2.2.1 (below_drew (Below.refl _ _)))) (below_alloc (Below.refl wb.heap.size wb) (.cells #[.int .u32 (rA (rLs j (rB (rB (rA (rA s).2).2).2).2).2).1] 23))
            have hR4 : (Kd.int .u32).R 23 (wb.alloc (.cells #[.int .u32 (rA (rLs j (rB (rB (rA (rA s).2).2).2).2).2).1] 23)) (q + 1) (fun i => q + 1 ≤ i) v (rLs j (rB (rB (rA (rA s).2).2).2).2).1 := Kd.R_alloc (Kd.R_step HR.out.1 (fun k hk hlt => HB3.out.2.2 k hlt (by have := HG.out; omega))) _
            have hC4 : Kd.C (Kd.int .u32) (wb.alloc (.cells #[.int .u32 (rA (rLs j (rB (rB (rA (rA s).2).2).2).2).2).1] 23)) (some ⟨wb.heap.size, 0, none⟩) 1 [(rA (rLs j (rB (rB (rA (rA s).2).2).2).2).2).1] := lit_C .u32 wb 23 [(rA (rLs j (rB (rB (rA (rA s).2).2).2).2).2).1] (by simp)
            have HT := Aside0.mk (And.intro hz4 (And.intro (HB3.out.1.below (below_alloc (Below.refl _ _) (.cells #[.int .u32 (rA (rLs j (rB (rB (rA (rA s).2).2).2).2).2).1] 23))) (HR.out.2.2.2.2.1.trans (Fr.trans (Fr.below (below_drew (Below.refl _ _))) (HB3.out.2.trans (Fr.below (below_alloc (Below.refl _ _) (.cells #[.int .u32 (rA (rLs j (rB (rB (rA (rA s).2).2).2).2).2).1] 23))))))))
            generalize wb.alloc (.cells #[.int .u32 (rA (rLs j (rB (rB (rA (rA s).2).2).2).2).2).1] 23) = WB at *
            refine wpAnyH_ready (rs := [5]) (by kernel_rfl) (by simp) ?_
            refine AllReadyH.cons rfl (fun K hK => ?_) ?_
            · refine app_row_ok (w0 := WB) (q + 1) (fun i => q + 1 ≤ i) (fun i hi => Nat.le_trans hqx4 hi) (by rfl) (.tmp 60) (.tmp 63) 54 23 4 rfl Tryd.underlying54 Tryd.infoAd (by decide) v (rLs j (rB (rB (rA (rA s).2).2).2).2).1 [(rA (rLs j (rB (rB (rA (rA s).2).2).2).2).2).1] (some ⟨wb.heap.size, 0, none⟩) 1 1 rfl rfl hR4 hC4 (Below.refl _ _) hqx4 (by rw [HRL.out]; omega) (fun v1 W1 hR1 hB1 => ?_)
              have hm1 := (hB1.block q (by omega)).trans hm4
              have hz1 := (hB1.block b (by have := HG.out; omega)).trans HT.out.1
              have hS1 := HT.out.2.1.belowB hB1 (by have := HG.out; omega)
              have hF1 := HT.out.2.2.belowB hB1 (by have := HG.out; omega)
              obtain ⟨A1, c1, rfl⟩ := Kd.R_slice hR1
              generalize ((rLs j (rB (rB (rA (rA s).2).2).2).2).1 ++ [(rA (rLs j (rB (rB (rA (rA s).2).2).2).2).2).1]).length = N1 at *
              have hk5 := (blk_cell hm1 8).trans rfl
              have hf5 := blk_frozen hm1
              have HV := Aside0.mk (And.intro hR1 (And.intro hm1 (And.intro hz1 (And.intro hS1 hF1))))
              clear hR1 hm1 hz1 hS1 hF1 hB1 hR4 hC4 hm4 hz4 HT
              refine hK.out _ _ trivial (fun hHeld => ?_)
              clear hK K hHeld
              try simp only [Act.put, List.getElem_toArray, List.getElem_cons_zero, List.getElem_cons_succ, List.setIfInBounds_toArray, List.set_cons_zero, List.set_cons_succ]
              refine wpAnyH_take (i := 6) (v := ?_) rfl (by kernel_rfl) (by kernel_rfl) (by kernel_rfl) (fun _ _ _ h => h) (Or.inl ⟨by rfl, ?_⟩) trivial ?_
              rotate_left 1
              · intro w hSw; (try dsimp only at hSw); go_simp; try with_reducible rfl
              try simp only [Act.put, List.getElem_toArray, List.getElem_cons_zero, List.getElem_cons_succ, List.setIfInBounds_toArray, List.set_cons_zero, List.set_cons_succ]
              refine wpAnyH_ready (rs := [7]) (by kernel_rfl) (by simp) ?_
              refine AllReadyH.cons rfl (fun K hK => ?_) ?_
              · go_simp
                refine hK.out _ _ trivial (fun hHeld => ?_)
                clear hK K hHeld
                try simp only [Act.put, List.getElem_toArray, List.getElem_cons_zero, List.getElem_cons_succ, List.setIfInBounds_toArray, List.set_cons_zero, List.set_cons_succ]
                refine wpAnyH_done (by kernel_rfl) ?_ _
                obtain ⟨hR1, hm1, hz1, hS1, hF1⟩ := HV.out
                have hR2 := Kd.R_far hR1 (p := ⟨q, 8, none⟩) (fun k hk => show k ≠ q by omega) (.slice A1 N1 c1)
                have hm2 : (W1.setCell ⟨q, 8, none⟩ (.slice A1 N1 c1)).heap[q]? = some (.cells #[.int .i64 4, .int .u32 (rA s).1, .int .u32 0, .int .u32 0, .int .u32 (rA (rA s).2).1, .int .i64 0, .int .i64 0, .bool (ob == 1), .slice A1 N1 c1] 56 (0, 0)) := (blk_set hm1 8 _).trans rfl
                have hz2 := blk_far hz1 (p := ⟨q, 8, none⟩) (show b ≠ q by have := HG.out; omega) (.slice A1 N1 c1)
                have hS2 := hS1.set q 8 (.slice A1 N1 c1) HG.out.1 (by have := HG.out; omega)
                have hF2 := hF1.setNew q 8 (.slice A1 N1 c1) (by have := HG.out; omega)
                clear hR1 hm1 hz1 hS1 hF1 hk5 hf5 HV
                generalize hWX : W1.setCell ⟨q, 8, none⟩ (.slice A1 N1 c1) = WX at *
                have HV := Aside0.mk (And.intro hR2 (And.intro hm2 (And.intro hz2 (And.intro hS2 (And.intro hF2 (rA_byt _ HR.out.2.2.2.2.2))))))
                clear hR2 hm2 hz2 hS2 hF2 hWX
                go_wp2
                go_roundg (gk - 1)
                case measure => omega
                case rel => exact ⟨j + 1, _, by omega, by go_num, ⟨by rw [HLX.out.1, HLX.out.2]; exact HV.out⟩⟩
              · exact AllReadyH.nil
            · exact AllReadyH.nil
          exact AllReadyH.nil
        exact AllReadyH.nil
      refine AllReadyH.cons rfl (fun K hK => ?_) ?_
      · go_simp
        refine (addr_rd w0 _ r (rLs j (rB (rB (rA (rA s).2).2).2).2).2 (HR.out.2.2.2.1.below (below_drew (Below.refl _ _))) HR.out.2.2.2.2.2).mono ?_
        rintro e wb ⟨rfl, hSb, hFb⟩
        have hmb := hFb.blk HG.out.1 (blk_below HR.out.2.1 (below_drew (Below.refl _ _)))
        have hkb : wb.cell? ⟨q, 8, none⟩ = some v := (blk_cell hmb 8).trans rfl
        have HB3 := Aside0.mk (And.intro hSb hFb)
        clear hSb hFb
        refine hK.out _ _ trivial (fun hHeld => ?_)
        clear hK K hHeld
        try simp only [Act.put, List.getElem_toArray, List.getElem_cons_zero, List.getElem_cons_succ, List.setIfInBounds_toArray, List.set_cons_zero, List.set_cons_succ]
        refine wpAnyH_ready (rs := [1, 4]) (by kernel_rfl) (by simp) ?_
        refine AllReadyH.cons rfl (fun K hK => ?_) ?_
        · go_simp
          refine hK.out _ _ trivial (fun hHeld => ?_)
          clear hK K hHeld
          try simp only [Act.put, List.getElem_toArray, List.getElem_cons_zero, List.getElem_cons_succ, List.setIfInBounds_toArray, List.set_cons_zero, List.set_cons_succ]
          refine wpAnyH_ready (rs := [4]) (by kernel_rfl) (by simp) ?_
          refine AllReadyH.cons rfl (fun K hK => ?_) ?_
          · go_simp
            have hb4 := below_alloc (Below.refl wb.heap.size wb) (.cells #[.int .u32 (rA (rLs j (rB (rB (rA (rA s).2).2).2).2).2).1] 23)
            have hk4 : (wb.alloc (.cells #[.int .u32 (rA (rLs j (rB (rB (rA (rA s).2).2).2).2).2).1] 23)).cell? ⟨q, 8, none⟩ = some v := pw_cell_below hb4 hkb
            refine hK.out _ _ trivial (fun hHeld => ?_)
            clear hK K hHeld
            try simp only [Act.put, List.getElem_toArray, List.getElem_cons_zero, List.getElem_cons_succ, List.setIfInBounds_toArray, List.set_cons_zero, List.set_cons_succ]
            have hqx4 : q + 1 ≤ (wb.alloc (.cells #[.int .u32 (rA (rLs j (rB (rB (rA (rA s).2).2).2).2).2).1] 23)).heap.size := by have := blk_lt hmb; simp; omega
            have hm4 := blk_below hmb (below_alloc (Below.refl wb.heap.size wb) (.cells #[.int .u32 (rA (rLs j (rB (rB (rA (rA s).2).2).2).2).2).1] 23))
            have hz4 := blk_below (HB3.out.2.blk HG.out.2.1 (blk_below HR.out.2.2.1 (below_drew (Below.refl _ _)))) (below_alloc (Below.refl wb.heap.size wb) (.cells #[.int .u32 (rA (rLs j (rB (rB (rA (rA s).2).2).2).2).2).1] 23))
            have hR4 : (Kd.int .u32).R 23 (wb.alloc (.cells #[.int .u32 (rA (rLs j (rB (rB (rA (rA s).2).2).2).2).2).1] 23)) (q + 1) (fun i => q + 1 ≤ i) v (rLs j (rB (rB (rA (rA s).2).2).2).2).1 := Kd.R_alloc (Kd.R_step HR.out.1 (fun k hk hlt => HB3.out.2.2 k hlt (by have := HG.out; omega))) _
            have hC4 : Kd.C (Kd.int .u32) (wb.alloc (.cells #[.int .u32 (rA (rLs j (rB (rB (rA (rA s).2).2).2).2).2).1] 23)) (some ⟨wb.heap.size, 0, none⟩) 1 [(rA (rLs j (rB (rB (rA (rA s).2).2).2).2).2).1] := lit_C .u32 wb 23 [(rA (rLs j (rB (rB (rA (rA s).2).2).2).2).2).1] (by simp)
            have HT := Aside0.mk (And.intro hz4 (And.intro (HB3.out.1.below (below_alloc (Below.refl _ _) (.cells #[.int .u32 (rA (rLs j (rB (rB (rA (rA s).2).2).2).2).2).1] 23))) (HR.out.2.2.2.2.1.trans (Fr.trans (Fr.below (below_drew (Below.refl _ _))) (HB3.out.2.trans (Fr.below (below_alloc (Below.refl _ _) (.cells #[.int .u32 (rA (rLs j (rB (rB (rA (rA s).2).2).2).2).2).1] 23))))))))
            generalize wb.alloc (.cells #[.int .u32 (rA (rLs j (rB (rB (rA (rA s).2).2).2).2).2).1] 23) = WB at *
            refine wpAnyH_ready (rs := [5]) (by kernel_rfl) (by simp) ?_
            refine AllReadyH.cons rfl (fun K hK => ?_) ?_
            · refine app_row_ok (w0 := WB) (q + 1) (fun i => q + 1 ≤ i) (fun i hi => Nat.le_trans hqx4 hi) (by rfl) (.tmp 60) (.tmp 63) 54 23 4 rfl Tryd.underlying54 Tryd.infoAd (by decide) v (rLs j (rB (rB (rA (rA s).2).2).2).2).1 [(rA (rLs j (rB (rB (rA (rA s).2).2).2).2).2).1] (some ⟨wb.heap.size, 0, none⟩) 1 1 rfl rfl hR4 hC4 (Below.refl _ _) hqx4 (by rw [HRL.out]; omega) (fun v1 W1 hR1 hB1 => ?_)
              have hm1 := (hB1.block q (by omega)).trans hm4
              have hz1 := (hB1.block b (by have := HG.out; omega)).trans HT.out.1
              have hS1 := HT.out.2.1.belowB hB1 (by have := HG.out; omega)
              have hF1 := HT.out.2.2.belowB hB1 (by have := HG.out; omega)
              obtain ⟨A1, c1, rfl⟩ := Kd.R_slice hR1
              generalize ((rLs j (rB (rB (rA (rA s).2).2).2).2).1 ++ [(rA (rLs j (rB (rB (rA (rA s).2).2).2).2).2).1]).length = N1 at *
              have hk5 := (blk_cell hm1 8).trans rfl
              have hf5 := blk_frozen hm1
              have HV := Aside0.mk (And.intro hR1 (And.intro hm1 (And.intro hz1 (And.intro hS1 hF1))))
              clear hR1 hm1 hz1 hS1 hF1 hB1 hR4 hC4 hm4 hz4 HT
              refine hK.out _ _ trivial (fun hHeld => ?_)
              clear hK K hHeld
              try simp only [Act.put, List.getElem_toArray, List.getElem_cons_zero, List.getElem_cons_succ, List.setIfInBounds_toArray, List.set_cons_zero, List.set_cons_succ]
              refine wpAnyH_take (i := 6) (v := ?_) rfl (by kernel_rfl) (by kernel_rfl) (by kernel_rfl) (fun _ _ _ h => h) (Or.inl ⟨by rfl, ?_⟩) trivial ?_
              rotate_left 1
              · intro w hSw; (try dsimp only at hSw); go_simp; try with_reducible rfl
              try simp only [Act.put, List.getElem_toArray, List.getElem_cons_zero, List.getElem_cons_succ, List.setIfInBounds_toArray, List.set_cons_zero, List.set_cons_succ]
              refine wpAnyH_ready (rs := [7]) (by kernel_rfl) (by simp) ?_
              refine AllReadyH.cons rfl (fun K hK => ?_) ?_
              · go_simp
                refine hK.out _ _ trivial (fun hHeld => ?_)
                clear hK K hHeld
                try simp only [Act.put, List.getElem_toArray, List.getElem_cons_zero, List.getElem_cons_succ, List.setIfInBounds_toArray, List.set_cons_zero, List.set_cons_succ]
                refine wpAnyH_done (by kernel_rfl) ?_ _
                obtain ⟨hR1, hm1, hz1, hS1, hF1⟩ := HV.out
                have hR2 := Kd.R_far hR1 (p := ⟨q, 8, none⟩) (fun k hk => show k ≠ q by omega) (.slice A1 N1 c1)
                have hm2 : (W1.setCell ⟨q, 8, none⟩ (.slice A1 N1 c1)).heap[q]? = some (.cells #[.int .i64 4, .int .u32 (rA s).1, .int .u32 0, .int .u32 0, .int .u32 (rA (rA s).2).1, .int .i64 0, .int .i64 0, .bool (ob == 1), .slice A1 N1 c1] 56 (0, 0)) := (blk_set hm1 8 _).trans rfl
                have hz2 := blk_far hz1 (p := ⟨q, 8, none⟩) (show b ≠ q by have := HG.out; omega) (.slice A1 N1 c1)
                have hS2 := hS1.set q 8 (.slice A1 N1 c1) HG.out.1 (by have := HG.out; omega)
                have hF2 := hF1.setNew q 8 (.slice A1 N1 c1) (by have := HG.out; omega)
                clear hR1 hm1 hz1 hS1 hF1 hk5 hf5 HV
                generalize hWX : W1.setCell ⟨q, 8, none⟩ (.slice A1 N1 c1) = WX at *
                have HV := Aside0.mk (And.intro hR2 (And.intro hm2 (And.intro hz2 (And.intro hS2 (And.intro hF2 (rA_byt _ HR.out.2.2.2.2.2))))))
                clear hR2 hm2 hz2 hS2 hF2 hWX
                go_wp2
                go_roundg (gk - 1)
                case measure => omega
                case rel => exact ⟨j + 1, _, by omega, by go_num, ⟨by rw [HLX.out.1, HLX.out.2]; exact HV.out⟩⟩
              · exact AllReadyH.nil
            · exact AllReadyH.nil
          exact AllReadyH.nil
        refine AllReadyH.cons rfl (fun K hK => ?_) ?_
        · go_simp
          have hb4 := below_alloc (Below.refl wb.heap.size wb) (.cells #[.int .u32 (rA (rLs j (rB (rB (rA (rA s).2).2).2).2).2).1] 23)
          have hk4 : (wb.alloc (.cells #[.int .u32 (rA (rLs j (rB (rB (rA (rA s).2).2).2).2).2).1] 23)).cell? ⟨q, 8, none⟩ = some v := pw_cell_below hb4 hkb
          refine hK.out _ _ trivial (fun hHeld => ?_)
          clear hK K hHeld
          try simp only [Act.put, List.getElem_toArray, List.getElem_cons_zero, List.getElem_cons_succ, List.setIfInBounds_toArray, List.set_cons_zero, List.set_cons_succ]
          refine wpAnyH_ready (rs := [1]) (by kernel_rfl) (by simp) ?_
          refine AllReadyH.cons rfl (fun K hK => ?_) ?_
          · go_simp
            refine hK.out _ _ trivial (fun hHeld => ?_)
            clear hK K hHeld
            try simp only [Act.put, List.getElem_toArray, List.getElem_cons_zero, List.getElem_cons_succ, List.setIfInBounds_toArray, List.set_cons_zero, List.set_cons_succ]
            have hqx4 : q + 1 ≤ (wb.alloc (.cells #[.int .u32 (rA (rLs j (rB (rB (rA (rA s).2).2).2).2).2).1] 23)).heap.size := by have := blk_lt hmb; simp; omega
            have hm4 := blk_below hmb (below_alloc (Below.refl wb.heap.size wb) (.cells #[.int .u32 (rA (rLs j (rB (rB (rA (rA s).2).2).2).2).2).1] 23))
            have hz4 := blk_below (HB3.out.2.blk HG.out.2.1 (blk_below HR.out.2.2.1 (below_drew (Below.refl _ _)))) (below_alloc (Below.refl wb.heap.size wb) (.cells #[.int .u32 (rA (rLs j (rB (rB (rA (rA s).2).2).2).2).2).1] 23))
            have hR4 : (Kd.int .u32).R 23 (wb.alloc (.cells #[.int .u32 (rA (rLs j (rB (rB (rA (rA s).2).2).2).2).2).1] 23)) (q + 1) (fun i => q + 1 ≤ i) v (rLs j (rB (rB (rA (rA s).2).2).2).2).1 := Kd.R_alloc (Kd.R_step HR.out.1 (fun k hk hlt => HB3.out.2.2 k hlt (by have := HG.out; omega))) _
            have hC4 : Kd.C (Kd.int .u32) (wb.alloc (.cells #[.int .u32 (rA (rLs j (rB (rB (rA (rA s).2).2).2).2).2).1] 23)) (some ⟨wb.heap.size, 0, none⟩) 1 [(rA (rLs j (rB (rB (rA (rA s).2).2).2).2).2).1] := lit_C .u32 wb 23 [(rA (rLs j (rB (rB (rA (rA s).2).2).2).2).2).1] (by simp)
            have HT := Aside0.mk (And.intro hz4 (And.intro (HB3.out.1.below (below_alloc (Below.refl _ _) (.cells #[.int .u32 (rA (rLs j (rB (rB (rA (rA s).2).2).2).2).2).1] 23))) (HR.out.2.2.2.2.1.trans (Fr.trans (Fr.below (below_drew (Below.refl _ _))) (HB3.out.2.trans (Fr.below (below_alloc (Below.refl _ _) (.cells #[.int .u32 (rA (rLs j (rB (rB (rA (rA s).2).2).2).2).2).1] 23))))))))
            generalize wb.alloc (.cells #[.int .u32 (rA (rLs j (rB (rB (rA (rA s).2).2).2).2).2).1] 23) = WB at *
            refine wpAnyH_ready (rs := [5]) (by kernel_rfl) (by simp) ?_
            refine AllReadyH.cons rfl (fun K hK => ?_) ?_
            · refine app_row_ok (w0 := WB) (q + 1) (fun i => q + 1 ≤ i) (fun i hi => Nat.le_trans hqx4 hi) (by rfl) (.tmp 60) (.tmp 63) 54 23 4 rfl Tryd.underlying54 Tryd.infoAd (by decide) v (rLs j (rB (rB (rA (rA s).2).2).2).2).1 [(rA (rLs j (rB (rB (rA (rA s).2).2).2).2).2).1] (some ⟨wb.heap.size, 0, none⟩) 1 1 rfl rfl hR4 hC4 (Below.refl _ _) hqx4 (by rw [HRL.out]; omega) (fun v1 W1 hR1 hB1 => ?_)
              have hm1 := (hB1.block q (by omega)).trans hm4
              have hz1 := (hB1.block b (by have := HG.out; omega)).trans HT.out.1
              have hS1 := HT.out.2.1.belowB hB1 (by have := HG.out; omega)
              have hF1 := HT.out.2.2.belowB hB1 (by have := HG.out; omega)
              obtain ⟨A1, c1, rfl⟩ := Kd.R_slice hR1
              generalize ((rLs j (rB (rB (rA (rA s).2).2).2).2).1 ++ [(rA (rLs j (rB (rB (rA (rA s).2).2).2).2).2).1]).length = N1 at *
              have hk5 := (blk_cell hm1 8).trans rfl
              have hf5 := blk_frozen hm1
              have HV := Aside0.mk (And.intro hR1 (And.intro hm1 (And.intro hz1 (And.intro hS1 hF1))))
              clear hR1 hm1 hz1 hS1 hF1 hB1 hR4 hC4 hm4 hz4 HT
              refine hK.out _ _ trivial (fun hHeld => ?_)
              clear hK K hHeld
              try simp only [Act.put, List.getElem_toArray, List.getElem_cons_zero, List.getElem_cons_succ, List.setIfInBounds_toArray, List.set_cons_zero, List.set_cons_succ]
              refine wpAnyH_take (i := 6) (v := ?_) rfl (by kernel_rfl) (by kernel_rfl) (by kernel_rfl) (fun _ _ _ h => h) (Or.inl ⟨by rfl, ?_⟩) trivial ?_
              rotate_left 1
              · intro w hSw; (try dsimp only at hSw); go_simp; try with_reducible rfl
              try simp only [Act.put, List.getElem_toArray, List.getElem_cons_zero, List.getElem_cons_succ, List.setIfInBounds_toArray, List.set_cons_zero, List.set_cons_succ]
              refine wpAnyH_ready (rs := [7]) (by kernel_rfl) (by simp) ?_
              refine AllReadyH.cons rfl (fun K hK => ?_) ?_
              · go_simp
                refine hK.out _ _ trivial (fun hHeld => ?_)
                clear hK K hHeld
                try simp only [Act.put, List.getElem_toArray, List.getElem_cons_zero, List.getElem_cons_succ, List.setIfInBounds_toArray, List.set_cons_zero, List.set_cons_succ]
                refine wpAnyH_done (by kernel_rfl) ?_ _
                obtain ⟨hR1, hm1, hz1, hS1, hF1⟩ := HV.out
                have hR2 := Kd.R_far hR1 (p := ⟨q, 8, none⟩) (fun k hk => show k ≠ q by omega) (.slice A1 N1 c1)
                have hm2 : (W1.setCell ⟨q, 8, none⟩ (.slice A1 N1 c1)).heap[q]? = some (.cells #[.int .i64 4, .int .u32 (rA s).1, .int .u32 0, .int .u32 0, .int .u32 (rA (rA s).2).1, .int .i64 0, .int .i64 0, .bool (ob == 1), .slice A1 N1 c1] 56 (0, 0)) := (blk_set hm1 8 _).trans rfl
                have hz2 := blk_far hz1 (p := ⟨q, 8, none⟩) (show b ≠ q by have := HG.out; omega) (.slice A1 N1 c1)
                have hS2 := hS1.set q 8 (.slice A1 N1 c1) HG.out.1 (by have := HG.out; omega)
                have hF2 := hF1.setNew q 8 (.slice A1 N1 c1) (by have := HG.out; omega)
                clear hR1 hm1 hz1 hS1 hF1 hk5 hf5 HV
                generalize hWX : W1.setCell ⟨q, 8, none⟩ (.slice A1 N1 c1) = WX at *
                have HV := Aside0.mk (And.intro hR2 (And.intro hm2 (And.intro hz2 (And.intro hS2 (And.intro hF2 (rA_byt _ HR.out.2.2.2.2.2))))))
                clear hR2 hm2 hz2 hS2 hF2 hWX
                go_wp2
                go_roundg (gk - 1)
                case measure => omega
                case rel => exact ⟨j + 1, _, by omega, by go_num, ⟨by rw [HLX.out.1, HLX.out.2]; exact HV.out⟩⟩
              · exact AllReadyH.nil
            · exact AllReadyH.nil
          exact AllReadyH.nil
        exact AllReadyH.nil
      exact AllReadyH.nil
    · obtain rfl : n = j := by omega
      obtain ⟨hR, hm, hz, hS, hF, hY⟩ := HR.out
      obtain ⟨A9, c9, rfl, hle9, hC9⟩ := Kd.R_reads hR
      have HC9 := Aside0.mk (And.intro hC9 hle9)
      clear hC9 hle9
      have HE := Aside0.mk (And.intro hR (And.intro hm (And.intro hz (And.intro hS hF))))
      have m0 := (blk_cell hm 0).trans rfl
      have m1 := (blk_cell hm 1).trans rfl
      have m2 := (blk_cell hm 2).trans rfl
      have m3 := (blk_cell hm 3).trans rfl
      have m4 := (blk_cell hm 4).trans rfl
      have m5 := (blk_cell hm 5).trans rfl
      have m6 := (blk_cell hm 6).trans rfl
      have m7 := (blk_cell hm 7).trans rfl
      have m8 := (blk_cell hm 8).trans rfl
      have z0 := (blk_cell hz 0).trans rfl
      have z1 := (blk_cell hz 1).trans rfl
      have z2 := (blk_cell hz 2).trans rfl
      have z3 := (blk_cell hz 3).trans rfl
      have z4 := (blk_cell hz 4).trans rfl
      have z5 := (blk_cell hz 5).trans rfl
      have z6 := (blk_cell hz 6).trans rfl
      have z7 := (blk_cell hz 7).trans rfl
      have z8 := (blk_cell hz 8).trans rfl
      have fz := blk_frozen hz
      have hbx : b < wr.heap.size := blk_lt hz
      have hqx : q < wr.heap.size := blk_lt hm
      clear hR hm hz hS hF hY
      go_wp2
      obtain ⟨hR, hm, hz, hS, hF⟩ := HE.out
      refine bodyPost_ret (results_cell_row2 rfl _ _ b 56 #[.int .i64 4, .int .u32 (rA s).1, .int .u32 0, .int .u32 0, .int .u32 (rA (rA s).2).1, .int .i64 0, .int .i64 0, .bool (ob == 1), .slice A9 (rLs n (rB (rB (rA (rA s).2).2).2).2).1.length c9] (0, 0) _ rfl (blk_put9 hz) hu2 rfl (by kernel_rfl)) rfl ?_
      obtain ⟨hob⟩ := HOB
      obtain ⟨hcv⟩ := HCNT
      have hnn : ((rB (rB (rA (rA s).2).2).2).1).toNat = n := by rw [← hcv]; rfl
      obtain ⟨hb, hrw, hr0⟩ := HC.out.2.2.2.2.2
      rw [hnn, ← hob]
      refine ⟨_, rfl, ?_, ?_, ?_⟩
      · have key : ∀ (W : World), (Kd.int .u32).R 23 W (q + 1) (fun i => q + 1 ≤ i) (.slice A9 (rLs n (rB (rB (rA (rA s).2).2).2).2).1.length c9) (rLs n (rB (rB (rA (rA s).2).2).2).2).1 → ∀ (i : Nat) (u : Value), (Kd.int .u32).R 23 (W.setCell ⟨b, i, none⟩ u) (q + 1) (fun i => q + 1 ≤ i) (.slice A9 (rLs n (rB (rB (rA (rA s).2).2).2).2).1.length c9) (rLs n (rB (rB (rA (rA s).2).2).2).2).1 := fun W h i u => Kd.R_far h (fun k hk => show k ≠ b by omega) u
        exact Kd.R_mono (Kd.R_lower (key _ (key _ (key _ (key _ (key _ (key _ (key _ (key _ (key _ hR _ _) _ _) _ _) _ _) _ _) _ _) _ _) _ _) _ _) (by omega)) (fun k hk => by omega)
      · repeat' (first | (refine RS.set ?_ _ _ _ (by omega) (by omega)) | exact hS)
      · repeat' (first | (refine Fr.setNew ?_ _ _ _ (by omega)) | exact hF)
end Go.Proofs.YtbgbplbkombfjaaDoor
