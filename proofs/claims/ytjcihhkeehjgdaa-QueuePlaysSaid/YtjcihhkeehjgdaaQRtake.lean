/- The document's queue: Take. -/
import Derived.Test.YtjcihhkeehjgdaaQRput
namespace Go.Proofs.Ytjcihhkeehjgdaa
open Go.RowKit Go.Proofs.YtjcihhkeehjgdaaW.PrintWords SumPlain
set_option linter.unusedVariables false
set_option linter.unusedSimpArgs false
attribute [local go_sem] setCell_drewN alloc_drewN
theorem rr_take {α : Type} {R : α → List Value → Prop} {size : Nat} {w : World} {A : Option Addr} {n m : Nat} {ps : List α} (h : ReadsRow R size w A n ps) (hm : m ≤ n) : ReadsRow R size w A m (ps.take m) :=
  ⟨by rw [List.length_take, h.1]; omega, Nat.le_trans hm h.2.1, fun hp => by
    obtain ⟨ad, e, hc⟩ := h.2.2 (by omega)
    refine ⟨ad, e, fun j p hj => hc j p ?_⟩
    rw [List.getElem?_take] at hj
    split at hj
    · exact hj
    · cases hj⟩
theorem rr_drop {α : Type} {R : α → List Value → Prop} {size : Nat} {w : World} {g n m c : Nat} {ps : List α} (h : ReadsRow R size w (some ⟨g, 0, none⟩) n ps) (hm : m ≤ n) (hc : n ≤ c) : ReadsRow R size w (if c = m then some (⟨g, 0, none⟩ : Addr) else Option.map (fun x : Addr => x.add (m * size)) (some ⟨g, 0, none⟩)) (n - m) (ps.drop m) :=
  ⟨by rw [List.length_drop, h.1], by have := h.2.1; omega, fun hp => by
    obtain ⟨ad, e, hcc⟩ := h.2.2 (by omega)
    injection e with e
    subst e
    rw [if_neg (by omega)]
    refine ⟨_, rfl, fun j p hj => ?_⟩
    rw [List.getElem?_drop] at hj
    obtain ⟨cs, h1, h2, h3⟩ := hcc (m + j) p hj
    refine ⟨cs, h1, h2, fun i u hu => ?_⟩
    have := h3 i u hu
    rw [← this]
    congr 1
    rw [add_add, Nat.add_mul, Nat.add_assoc]⟩
set_option maxHeartbeats 1000000 in
set_option maxRecDepth 100000 in
theorem rtake_out (i : Int) (w w0 : World) (base : Nat) (ok : Nat → Prop) (g : Nat) (L : List (Int × List Int)) (d : Int) (hQ : RQ base ok w g L d) (hB : Below base w0 w) (hbase : base ≤ w.heap.size) (hi : i < 0 ∨ (L.length : Int) ≤ i) :
    Calls Try.prog 32 #[.pointer (some ⟨g, 0, none⟩), .int .i64 i] w fun e w' => e = .returned (.tuple #[.agg #[.int .i64 0, .slice none 0 0], .bool false]) ∧ Below w.heap.size w w' := by
  have hu := Try.underlying58
  have hu2 := Try.underlying62
  have hb1 := below_alloc (Below.refl w.heap.size w) (.cells #[.int .i64 0, .slice none 0 0] 62)
  obtain ⟨v, hq, hR⟩ := hQ
  obtain ⟨A0, c0, rfl, hle0, hC0⟩ := Kd.R_reads hR
  have hmxN : L.length ≤ 9223372036854775807 := Kd.C_max hC0
  generalize L.length = N at *
  have p0 := pw_cell_below hb1 ((blk_cell hq 0).trans rfl)
  clear hq hR hC0 hB
  rcases hi with hi | hi
  · go_enter Try.func32, Try.ntmps32
    go_wp2
    all_goals go_returns
    all_goals exact ⟨rfl, hb1⟩
  · have d0 : decide (i < 0) = false := decide_eq_false (by omega)
    go_enter Try.func32, Try.ntmps32
    go_wp2
    all_goals go_returns
    all_goals exact ⟨rfl, hb1⟩
set_option maxHeartbeats 4000000 in
set_option maxRecDepth 100000 in
theorem rtake_in (i : Nat) (p : Int) (l : List Int) (w w0 : World) (base : Nat) (ok : Nat → Prop) (g : Nat) (L : List (Int × List Int)) (d : Int) (hQ : RQ base ok w g L d) (hB : Below base w0 w) (hbase : base ≤ w.heap.size) (hg : base ≤ g) (hi : i < L.length) (hL : L.length ≤ 10000) (he : L.getD i (0, []) = (p, l)) (hfresh : ∀ k, w.heap.size ≤ k → ok k) :
    Calls Try.prog 32 #[.pointer (some ⟨g, 0, none⟩), .int .i64 (i : Int)] w fun e w' => ∃ u, e = .returned (.tuple #[.agg #[.int .i64 p, u], .bool true]) ∧ (Kd.int .u8).R 5 w' base (fun _ => True) u l ∧ RQ base ok w' g (L.eraseIdx i) d ∧ Below base w0 w' ∧ w.heap.size ≤ w'.heap.size ∧ FrQ ok g w w' := by
  have hu := Try.underlying58
  have hu2 := Try.underlying62
  obtain ⟨inf, hinf, hz0, hz1, hz2⟩ := info_parts Try.infoRt
  obtain ⟨W, hW⟩ : ∃ W, W = w.alloc (.cells #[.int .i64 0, .slice none 0 0] 62) := ⟨_, rfl⟩
  have hb1 : Below w.heap.size w W := by rw [hW]; exact below_alloc (Below.refl _ _) _
  have hz : W.heap[w.heap.size]? = some (.cells #[.int .i64 0, .slice none 0 0] 62 (0, 0)) := by rw [hW]; exact heap_alloc_new w _
  obtain ⟨v, hq, hR⟩ := hQ
  have hgz := blk_lt hq
  obtain ⟨h, c0, rfl, hh0, hhw, _⟩ := Kd.R_form hR (by omega)
  have hle0 := (Kd.R_reads' hR).2.1
  have hel := Kd.R_elem hR (0, []) (i : Int) (by omega) (by omega)
  rw [show (i : Int).toNat = i by omega, he] at hel
  obtain ⟨cs, hcl, ⟨x0, x1, rfl, hx0, u, rfl, hRu⟩, hcc, hfz⟩ := hel
  have hx0' : x0 = [.int .i64 p] := hx0
  subst hx0'
  have e0 := hcc 0 (.int .i64 p) rfl
  have e1 := hcc 1 u rfl
  have esz : (Kd.pair (Kd.int .i64) (Kd.slice 5 (Kd.int .u8))).sz = 2 := rfl
  rw [esz] at e0 e1
  rw [Nat.add_zero] at e0
  have e0 := pw_cell_below hb1 e0
  have e1 := pw_cell_below hb1 e1
  obtain ⟨Au, cu, rfl⟩ := Kd.R_slice hRu
  obtain ⟨X, hX⟩ : ∃ X, X = W.alloc (.cells #[.int .i64 p, .slice Au l.length cu] 62) := ⟨_, rfl⟩
  have hbX : Below W.heap.size W X := by rw [hX]; exact below_alloc (Below.refl _ _) _
  have hi6 : X.heap[W.heap.size]? = some (.cells #[.int .i64 p, .slice Au l.length cu] 62 (0, 0)) := by rw [hX]; exact heap_alloc_new W _
  have hWs : W.heap.size = w.heap.size + 1 := by rw [hW]; simp
  have hwX : w.heap.size ≤ X.heap.size := Nat.le_trans hb1.size hbX.size
  have hbwX : Below w.heap.size w X := reach_to hb1 hb1.size hbX
  obtain ⟨Y, hY⟩ : ∃ Y, Y = X.alloc (.cells #[] 62) := ⟨_, rfl⟩
  have hbY : Below X.heap.size X Y := by rw [hY]; exact below_alloc (Below.refl _ _) _
  have hbwY : Below w.heap.size w Y := reach_to hbwX hwX hbY
  have hown : kIt.R 62 Y base (fun k => ok k ∧ k ≠ w.heap.size) (.slice (some ⟨X.heap.size, 0, none⟩) 0 0) [] := by
    rw [hY]
    have := made0_R kIt 62 X base (.agg #[.int .i64 0, .slice none 0 0]) 0 (fun k => ok k ∧ k ≠ w.heap.size) (Nat.le_trans hbase hwX) (by omega) ⟨hfresh _ hwX, by have := hbX.size; omega⟩
    rwa [show madeCells (Value.agg #[.int .i64 0, .slice none 0 0]).cells (0 * kIt.sz) = #[] from by simp [madeCells]] at this
  have hrr := (Kd.R_bound hR).2.reads
  obtain ⟨Ar, cr, her, _, hrr⟩ := hrr
  injection her with her hn2 hn3
  subst her
  clear hn2 hn3
  have hrr : ReadsRow (fun x cs => kIt.M w base (fun k => ok k ∧ k < w.heap.size) x cs) kIt.sz w (some ⟨h, 0, none⟩) L.length L := ReadsRow.imp_ hrr (Below.refl _ _) (fun x cs hm => kIt.M_mono (fun k hk => ⟨hk.1.1, hk.1.2.2.1⟩) hm)
  have hto := cut_to 56 62 .i64 Try.underlying56 Try.infoRt (some ⟨h, 0, none⟩) L.length c0 (i : Int) i rfl (by omega)
  have hfrom := cut_from 56 62 .i64 Try.underlying56 hinf 2 hz1 (some ⟨h, 0, none⟩) L.length c0 ((i : Int) + 1) (by omega) (by omega)
  simp only [show ((i : Int) + 1).toNat = i + 1 by omega] at hfrom
  have hdrop := rr_drop hrr (show i + 1 ≤ L.length by omega) hle0
  rw [show kIt.sz = 2 from rfl] at hdrop
  obtain ⟨A9, hA9⟩ : ∃ A9, A9 = (if c0 = i + 1 then some (⟨h, 0, none⟩ : Addr) else Option.map (fun x : Addr => x.add ((i + 1) * 2)) (some ⟨h, 0, none⟩)) := ⟨_, rfl⟩
  rw [← hA9] at hfrom hdrop
  have hqY := blk_below hq hbwY
  have p0 := (blk_cell (blk_below hq hb1) 0).trans rfl
  have pX := (blk_cell (blk_below hq hbwX) 0).trans rfl
  have pY := (blk_cell hqY 0).trans rfl
  have hgW : g < W.heap.size := by omega
  have HXX := Aside0.mk hX
  have HX := Aside0.mk hW
  have HYY := Aside0.mk hY
  obtain ⟨b4, hb4⟩ : ∃ b4, b4 = w.heap.size := ⟨_, rfl⟩
  obtain ⟨b6, hb6⟩ : ∃ b6, b6 = W.heap.size := ⟨_, rfl⟩
  obtain ⟨b8, hb8⟩ : ∃ b8, b8 = X.heap.size := ⟨_, rfl⟩
  rw [← hb8, ← hb4] at hown
  have hXs : X.heap.size = W.heap.size + 1 := by rw [hX]; simp
  have HB8 := Aside0.mk (show W.heap.size + 1 = b8 by omega)
  clear hXs
  have hYs : b8 < Y.heap.size := by rw [hb8, hY]; simp
  have Hb := Aside0.mk (And.intro hb4 (And.intro hb6 hb8))
  have hord : b4 < b6 ∧ b6 < b8 ∧ g < b4 := by
    have : X.heap.size = W.heap.size + 1 := by rw [hX]; simp
    omega
  obtain ⟨ho1, ho2, ho3⟩ := hord
  have hzY := blk_below (blk_below hz hbX) hbY
  have hiY := blk_below hi6 hbY
  rw [← hb4] at hzY
  rw [← hb6] at hiY
  have HQ := Aside0.mk (And.intro hqY (And.intro hzY (And.intro hiY (And.intro hown (And.intro (rr_take hrr (show i ≤ L.length by omega)) (And.intro hdrop (And.intro hbwY (And.intro hB (And.intro hbase (And.intro hg (And.intro hfresh hRu)))))))))))
  generalize hnu : l.length = nu at *
  obtain ⟨N, hN⟩ : ∃ N, N = L.length := ⟨_, rfl⟩
  rw [← hN] at p0 pX pY hi hL hto hfrom hle0
  have HNN := Aside0.mk hN
  clear hq hR hz hRu hg hcc hfz hW hX hY hb4 hb6 hb8 hb1 hbX hbY hbwX hbwY hx0 hh0 hhw hcl hbase hB he hnu hi6 hwX hWs hown hrr hdrop hqY hzY hiY hfresh hinf hz0 hz1 hz2 hA9 hN
  go_enter Try.func32, Try.ntmps32
  have hbw0 := HQ.out.2.2.2.2.2.2.1
  have hKM : ∀ (x : Int × List Int) (cs : List Value), kIt.M w base (fun k => ok k ∧ k < w.heap.size) x cs → kIt.M Y base (fun k => ok k ∧ k < w.heap.size) x cs := fun x cs hm => Kd.M_below hm hbw0
  have HK := Aside0.mk hKM
  clear hKM hbw0
  have hHO : kIt.R 62 Y base (fun k => ok k ∧ k ≠ b4) (.slice (some ⟨b8, 0, none⟩) 0 0) [] := HQ.out.2.2.2.1
  have hRr : ReadsRow (fun x cs => kIt.M w base (fun k => ok k ∧ k < w.heap.size) x cs) kIt.sz Y (some ⟨h, 0, none⟩) i (L.take i) := ReadsRow.imp_ HQ.out.2.2.2.2.1 HQ.out.2.2.2.2.2.2.1 (fun _ _ h => h)
  have hokp : ∀ k, ok k ∧ k < w.heap.size → (ok k ∧ k ≠ b4) ∧ some k ≠ (Value.slice (some ⟨b8, 0, none⟩) 0 0).ownBlock := fun k hk => ⟨⟨hk.1, by have := Hb.out.1; have := hk.2; omega⟩, fun e => by (have e2 : k = b8 := (by simpa [Value.ownBlock] using e)); (have := Hb.out.1); (have := hk.2); omega⟩
  have hfr : ∀ k, Y.heap.size ≤ k → ok k ∧ k ≠ b4 := fun k hk => ⟨HQ.out.2.2.2.2.2.2.2.2.2.2.1 k (by have := HQ.out.2.2.2.2.2.2.1.size; omega), by omega⟩
  have hBB : Below base w0 Y := HQ.out.2.2.2.2.2.2.2.1.trans ⟨HQ.out.2.2.2.2.2.2.1.os, HQ.out.2.2.2.2.2.2.1.tape, HQ.out.2.2.2.2.2.2.1.output, HQ.out.2.2.2.2.2.2.1.size, fun j hj => HQ.out.2.2.2.2.2.2.1.block j (Nat.lt_of_lt_of_le hj HQ.out.2.2.2.2.2.2.2.2.1)⟩
  have hbb : base ≤ Y.heap.size := Nat.le_trans HQ.out.2.2.2.2.2.2.2.2.1 HQ.out.2.2.2.2.2.2.1.size
  have hl1 : (([] : List (Int × List Int)).length + i) * 32 ≤ 140737488355328 := by simp; omega
  have HAP := Aside0.mk (And.intro hHO (And.intro hRr (And.intro hokp (And.intro hfr (And.intro hBB (And.intro hbb hl1))))))
  clear hHO hRr hokp hfr hBB hbb hl1
  go_wp2_with (first | (at_builtin; rw [← HXX.out, ← HYY.out, HB8.out, ← Hb.out.2.1, ← Hb.out.1]; (refine Kd.R_append_rows kIt (w0 := w0) (W := Y) base rfl (.tmp 27) (.tmp 33) 56 62 (.agg #[.int .i64 0, .slice none 0 0]) 32 rfl Try.underlying56 Try.infoRt rfl (by decide) (by decide) (.slice (some ⟨b8, 0, none⟩) 0 0) [] (L.take i) (some ⟨h, 0, none⟩) i c0 (fun k => ok k ∧ k ≠ b4) (fun k => ok k ∧ k < w.heap.size) rfl rfl HAP.out.1 HAP.out.2.1 HK.out HAP.out.2.2.1 HAP.out.2.2.2.1 HAP.out.2.2.2.2.1 HAP.out.2.2.2.2.2.1 HAP.out.2.2.2.2.2.2 ?_)) | rw [← HX.out])
  intro v7 w7 hR7 hB7 hg7 hat7
  have hYw := HQ.out.2.2.2.2.2.2.1
  have hb4w := Hb.out.1
  have hbw7 : Below w.heap.size w w7 := hYw.grown hg7 hYw.size (fun k hk => by have e2 : b8 = k := (by simpa [Value.ownBlock] using hk); omega)
  have hne7 : ∀ k, k < b8 → some k ≠ v7.ownBlock := fun k hk e => by
    rcases hat7 with h7 | ⟨z, h7, hz7⟩
    · rw [h7] at e
      have e2 : k = b8 := (by simpa [Value.ownBlock] using e)
      omega
    · rw [h7] at e
      injection e with e
      omega
  have hq7 := blk_grown HQ.out.1 hg7 (show some g ≠ (Value.slice (some ⟨b8, 0, none⟩) 0 0).ownBlock by intro e; have e2 : g = b8 := (by simpa [Value.ownBlock] using e); omega)
  have hz7 := blk_grown HQ.out.2.1 hg7 (show some b4 ≠ (Value.slice (some ⟨b8, 0, none⟩) 0 0).ownBlock by intro e; have e2 : b4 = b8 := (by simpa [Value.ownBlock] using e); omega)
  have hi7 := blk_grown HQ.out.2.2.1 hg7 (show some b6 ≠ (Value.slice (some ⟨b8, 0, none⟩) 0 0).ownBlock by intro e; have e2 : b6 = b8 := (by simpa [Value.ownBlock] using e); omega)
  have p7 : w7.cell? ⟨g, 0, none⟩ = some (.slice (some ⟨h, 0, none⟩) L.length c0) := (blk_cell hq7 0).trans rfl
  rw [← HNN.out] at p7
  have hRr : ReadsRow (fun x cs => kIt.M w base (fun k => ok k ∧ k < w.heap.size) x cs) kIt.sz w7 A9 (L.length - (i + 1)) (L.drop (i + 1)) := ReadsRow.imp_ HQ.out.2.2.2.2.2.1 hbw7 (fun _ _ h => h)
  have hKM : ∀ (x : Int × List Int) (cs : List Value), kIt.M w base (fun k => ok k ∧ k < w.heap.size) x cs → kIt.M w7 base (fun k => ok k ∧ k < w.heap.size) x cs := fun x cs hm => Kd.M_below hm hbw7
  have hokp : ∀ k, ok k ∧ k < w.heap.size → (ok k ∧ k ≠ b4) ∧ some k ≠ v7.ownBlock := fun k hk => ⟨⟨hk.1, by have := hk.2; omega⟩, hne7 k (by have := hk.2; omega)⟩
  have hfr : ∀ k, w7.heap.size ≤ k → ok k ∧ k ≠ b4 := fun k hk => ⟨HQ.out.2.2.2.2.2.2.2.2.2.2.1 k (by have := hbw7.size; omega), by have := hg7.size; omega⟩
  have hbb : base ≤ w7.heap.size := Nat.le_trans HQ.out.2.2.2.2.2.2.2.2.1 hbw7.size
  have hl2 : ((L.take i).length + (L.length - (i + 1))) * 32 ≤ 140737488355328 := by
    rw [List.length_take]
    have := HNN.out
    omega
  have HA2 := Aside0.mk (And.intro hR7 (And.intro hRr (And.intro hKM (And.intro hokp (And.intro hfr (And.intro hB7 (And.intro hbb hl2)))))))
  have HV7 := Aside0.mk (And.intro hq7 (And.intro hz7 (And.intro hi7 (And.intro hbw7 hne7))))
  obtain ⟨A7, c7, hv7⟩ := Kd.R_slice hR7
  rw [List.length_take, Nat.min_eq_left (by have := HNN.out; omega)] at hv7
  subst hv7
  rw [← HNN.out] at HA2
  clear hR7 hRr hKM hokp hfr hB7 hbb hl2 hq7 hz7 hi7 hbw7 hne7 hat7 hg7 hYw hb4w pY pX p0 HAP HK
  go_wp2_with (at_builtin; refine Kd.R_append_rows kIt (w0 := w0) (W := w7) base rfl (.tmp 36) (.tmp 43) 56 62 (.agg #[.int .i64 0, .slice none 0 0]) 32 rfl Try.underlying56 Try.infoRt rfl (by decide) (by decide) (.slice A7 i c7) (L.take i) (L.drop (i + 1)) A9 (N - (i + 1)) (c0 - (i + 1)) (fun k => ok k ∧ k ≠ b4) (fun k => ok k ∧ k < w.heap.size) rfl rfl HA2.out.1 HA2.out.2.1 HA2.out.2.2.1 HA2.out.2.2.2.1 HA2.out.2.2.2.2.1 HA2.out.2.2.2.2.2.1 HA2.out.2.2.2.2.2.2.1 HA2.out.2.2.2.2.2.2.2 ?_)
  intro v8 w8 hR8 hB8 hg8 _
  rw [← List.eraseIdx_eq_take_drop_succ] at hR8
  obtain ⟨hq7, hz7, hi7, hbw7, hne7⟩ := HV7.out
  have hq8 := blk_grown hq7 hg8 (hne7 g (by omega))
  have hz8 := blk_grown hz7 hg8 (hne7 b4 (by omega))
  have hi8 := blk_grown hi7 hg8 (hne7 b6 (by omega))
  have hbw8 : Below w.heap.size w w8 := hbw7.grown hg8 hbw7.size (fun k hk => by
    rcases Nat.lt_or_ge k b8 with h1 | h1
    · exact absurd hk.symm (hne7 k h1)
    · have := Hb.out.1; omega)
  have p8 : w8.cell? ⟨g, 0, none⟩ = some (.slice (some ⟨h, 0, none⟩) L.length c0) := (blk_cell hq8 0).trans rfl
  rw [← HNN.out] at p8
  have fq := blk_frozen hq8
  have z0 := (blk_cell hz8 0).trans rfl
  have z1 := (blk_cell hz8 1).trans rfl
  have fz := blk_frozen hz8
  have i0 := (blk_cell hi8 0).trans rfl
  have i1 := (blk_cell hi8 1).trans rfl
  have HV := Aside0.mk (And.intro hq8 (And.intro hz8 (And.intro (Kd.R_below HQ.out.2.2.2.2.2.2.2.2.2.2.2 hbw8) (And.intro hR8 (And.intro hB8 hbw8)))))
  obtain ⟨A8, c8, rfl⟩ := Kd.R_slice hR8
  generalize (L.eraseIdx i).length = n8 at *
  have hgb4 : g ≠ b4 := by omega
  have hgb6 : g ≠ b6 := by omega
  clear hq7 hz7 hi7 hbw7 hne7 hq8 hz8 hi8 hR8 hB8 hg8 hbw8 HV7 HA2 p7
  go_wp2
  obtain ⟨hq8, hz8, hRu8, hR8, hB8, hbw8⟩ := HV.out
  have hz9 := (blk_set (blk_set (blk_far hz8 (p := ⟨g, 0, none⟩) hgb4.symm (.slice A8 n8 c8)) 0 (.int .i64 p)) 1 (.slice Au nu cu)).trans rfl
  refine bodyPost_ret (results_list (rs := [.cell 4 62, .tmp 5]) rfl (by simp) (.cell b4 62 #[.int .i64 p, .slice Au nu cu] (0, 0) _ rfl hz9 hu2 rfl (by kernel_rfl) (.tmp .nil))) rfl ?_
  have hb4w := Hb.out.1
  refine ⟨_, rfl, ?_, ⟨_, (blk_far (blk_far (blk_set hq8 0 _) (p := ⟨b4, 0, none⟩) hgb4 _) (p := ⟨b4, 1, none⟩) hgb4 _), ?_⟩, ?_, ?_, ?_⟩
  · exact Kd.R_mono (Kd.R_set (Kd.R_set (Kd.R_set hRu8 hq8 (by decide) 0 _) (blk_far hz8 (p := ⟨g, 0, none⟩) hgb4.symm _) (by decide) 0 _) (blk_set (blk_far hz8 (p := ⟨g, 0, none⟩) hgb4.symm _) 0 _) (by decide) 1 _) (fun _ _ => trivial)
  · exact Kd.R_mono (Kd.R_far (Kd.R_far (Kd.R_set hR8 hq8 (by decide) 0 _) (p := ⟨b4, 0, none⟩) (fun k hk => hk.2) _) (p := ⟨b4, 1, none⟩) (fun k hk => hk.2) _) (fun k hk => hk.1)
  · have hb4b : base ≤ b4 := by rw [hb4w]; exact HQ.out.2.2.2.2.2.2.2.2.1
    exact Below.setCell (Below.setCell (Below.setCell hB8 HQ.out.2.2.2.2.2.2.2.2.2.1 _) hb4b _) hb4b _
  · simpa [World.setCell] using hbw8.size
  · intro k hk hkg _
    have hkb : k ≠ b4 := by omega
    exact ((Below.heap_setCell _ ⟨b4, 1, none⟩ _ k hkb).trans ((Below.heap_setCell _ ⟨b4, 0, none⟩ _ k hkb).trans (Below.heap_setCell _ ⟨g, 0, none⟩ _ k hkg))).trans (hbw8.block k hk)
end Go.Proofs.Ytjcihhkeehjgdaa
