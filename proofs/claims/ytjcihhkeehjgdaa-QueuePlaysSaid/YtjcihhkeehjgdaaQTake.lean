/- queue.Take. -/
import Derived.Test.YtjcihhkeehjgdaaQDel
import Derived.Handy
namespace Go.Proofs.Ytjcihhkeehjgdaa
open Go.RowKit Go.Proofs.YtjcihhkeehjgdaaW.PrintWords SumPlain
set_option linter.unusedVariables false
set_option linter.unusedSimpArgs false
attribute [local go_sem] setCell_drewN alloc_drewN
set_option maxHeartbeats 1000000 in
theorem is_any (i : Int) (w : World) (g : Nat) (A : Option Addr) (N c : Nat) (hN : N ≤ 9223372036854775807) (hq : w.cell? ⟨g, 0, none⟩ = some (.slice A N c)) :
    Calls Try.prog 51 #[.pointer (some ⟨g, 0, none⟩), .int .i64 i] w fun e w' => e = .returned (.bool (decide (0 ≤ i ∧ i < (N : Int)))) ∧ w = w' := by
  have hu := Try.underlying38
  by_cases h0 : 0 ≤ i
  · by_cases h1 : i < (N : Int)
    · have HD := Aside0.mk (show decide (0 ≤ i ∧ i < (N : Int)) = true from decide_eq_true ⟨h0, h1⟩)
      rw [HD.out]
      clear HD
      go_enter Try.func51, Try.ntmps51
      go_wp2
      go_ret
      exact ⟨rfl, rfl⟩
    · have HD := Aside0.mk (show decide (0 ≤ i ∧ i < (N : Int)) = false from decide_eq_false (fun h => h1 h.2))
      have d1 : decide (i < (N : Int)) = false := decide_eq_false h1
      rw [HD.out]
      clear HD h1
      go_enter Try.func51, Try.ntmps51
      go_wp2
      go_ret
      exact ⟨rfl, rfl⟩
  · have HD := Aside0.mk (show decide (0 ≤ i ∧ i < (N : Int)) = false from decide_eq_false (fun h => h0 h.1))
    have d0 : decide (0 ≤ i) = false := decide_eq_false h0
    rw [HD.out]
    clear HD h0
    go_enter Try.func51, Try.ntmps51
    go_wp2
    go_ret
    exact ⟨rfl, rfl⟩
set_option maxHeartbeats 1000000 in
set_option maxRecDepth 100000 in
theorem take_out (i : Int) (w w0 : World) (base : Nat) (ok : Nat → Prop) (g : Nat) (L : List (Int × List Int)) (d : Int) (hQ : QS base ok w g L d) (hB : Below base w0 w) (hbase : base ≤ w.heap.size) (hi : i < 0 ∨ (L.length : Int) ≤ i) :
    Calls Try.prog 22 #[.pointer (some ⟨g, 0, none⟩), .int .i64 i] w fun e w' => e = .returned (.tuple #[.agg #[.int .i64 0, .slice none 0 0], .bool false]) ∧ QS base ok w' g L d ∧ Below base w0 w' ∧ w.heap.size ≤ w'.heap.size := by
  have hu := Try.underlying38
  have hu2 := Try.underlying42
  have hb1 := below_alloc (Below.refl w.heap.size w) (.cells #[.int .i64 0, .slice none 0 0] 42)
  have HS := Aside0.mk (And.intro (hQ.below hb1) (hB.alloc hbase (.cells #[.int .i64 0, .slice none 0 0] 42)))
  obtain ⟨v, hq, hR⟩ := hQ
  obtain ⟨A0, c0, rfl, hle0, hC0⟩ := Kd.S_reads hR
  have hmxN : L.length ≤ 9223372036854775807 := Kd.C_max hC0
  generalize L.length = N at *
  have p0 := pw_cell_below hb1 ((blk_cell hq 0).trans rfl)
  have hsz : w.heap.size ≤ (w.alloc (.cells #[.int .i64 0, .slice none 0 0] 42)).heap.size := hb1.size
  clear hq hR hC0 hB hb1
  have HD := Aside0.mk (show decide (0 ≤ i ∧ i < (N : Int)) = false from decide_eq_false (by omega))
  have HP := Aside0.mk p0
  have HNm := Aside0.mk (show N ≤ 9223372036854775807 from hmxN)
  clear hi hle0 p0 hmxN
  go_enter Try.func22, Try.ntmps22
  go_wp2_with fail
  refine (is_any i _ g A0 N c0 HNm.out HP.out).mono ?_
  rintro e w1 ⟨rfl, rfl⟩
  rw [HD.out]
  go_wp2
  all_goals go_returns
  all_goals exact ⟨rfl, HS.out.1, HS.out.2, hsz⟩
set_option maxHeartbeats 4000000 in
set_option maxRecDepth 100000 in
theorem take_in_fr (i : Nat) (p : Int) (l : List Int) (w w0 : World) (base : Nat) (ok : Nat → Prop) (g : Nat) (L : List (Int × List Int)) (d : Int) (hQ : QS base ok w g L d) (hB : Below base w0 w) (hbase : base ≤ w.heap.size) (hg : base ≤ g) (hi : i < L.length) (hL : L.length ≤ 10000) (he : L.getD i (0, []) = (p, l)) :
    Calls Try.prog 22 #[.pointer (some ⟨g, 0, none⟩), .int .i64 (i : Int)] w fun e w' => ∃ u, e = .returned (.tuple #[.agg #[.int .i64 p, u], .bool true]) ∧ (Kd.int .u8).R 5 w' base (fun _ => True) u l ∧ QS base ok w' g (L.eraseIdx i) d ∧ Below base w0 w' ∧ w.heap.size ≤ w'.heap.size ∧ FrQ ok g w w' := by
  have hu := Try.underlying38
  have hu2 := Try.underlying42
  obtain ⟨W, hW⟩ : ∃ W, W = w.alloc (.cells #[.int .i64 0, .slice none 0 0] 42) := ⟨_, rfl⟩
  have hb1 : Below w.heap.size w W := by rw [hW]; exact below_alloc (Below.refl _ _) _
  have hz : W.heap[w.heap.size]? = some (.cells #[.int .i64 0, .slice none 0 0] 42 (0, 0)) := by rw [hW]; exact heap_alloc_new w _
  have hBW : Below base w0 W := by rw [hW]; exact hB.alloc hbase _
  obtain ⟨v, hq, hR⟩ := hQ
  have hgz := blk_lt hq
  obtain ⟨h, c0, rfl, hh0, hhw, _⟩ := Kd.S_form hR (by omega)
  have hokh : ok h := hR.elim fun f hf => hf.1 h rfl
  have HOK := Aside0.mk hokh
  clear hokh
  have hle0 := (Kd.S_reads' hR).2.1
  have hel := Kd.R_elem (Kd.S_R hR) (0, []) (i : Int) (by omega) (by omega)
  rw [show (i : Int).toNat = i by omega, he] at hel
  obtain ⟨cs, hcl, ⟨x0, x1, rfl, hx0, u, rfl, hRu⟩, hcc, hfz⟩ := hel
  have hx0' : x0 = [.int .i64 p] := hx0
  subst hx0'
  have e0 := hcc 0 (.int .i64 p) rfl
  have e1 := hcc 1 u rfl
  have esz : (Kd.pair (Kd.int .i64) (Kd.slice 5 (Kd.int .u8))).sz = 2 := rfl
  rw [esz] at e0 e1
  rw [Nat.add_zero] at e0
  have e0 := pw_cell_below hb1 e0
  have e1 := pw_cell_below hb1 e1
  have hneh : some g ≠ some h := Kd.S_ne hR hq (by decide)
  have hRu' := Kd.R_mono hRu (ok' := fun k => some k ≠ some h) (fun k hk => fun e => hk.2 (by injection e))
  obtain ⟨Au, cu, rfl⟩ := Kd.R_slice hRu
  have hR2 := Kd.S_elderB hR w.heap.size (Nat.le_refl _)
  obtain ⟨X, hX⟩ : ∃ X, X = W.alloc (.cells #[.int .i64 p, .slice Au l.length cu] 42) := ⟨_, rfl⟩
  have hbX : Below W.heap.size W X := by rw [hX]; exact below_alloc (Below.refl _ _) _
  have hi6 : X.heap[W.heap.size]? = some (.cells #[.int .i64 p, .slice Au l.length cu] 42 (0, 0)) := by rw [hX]; exact heap_alloc_new W _
  have hWs : W.heap.size = w.heap.size + 1 := by rw [hW]; simp
  have hBX : Below base w0 X := by rw [hX]; exact hBW.alloc (Nat.le_trans hbase hb1.size) _
  have hqX := blk_below (blk_below hq hb1) hbX
  have hRX := Kd.S_below (Kd.S_below hR2 hb1) hbX
  have hRuX := Kd.R_below (Kd.R_below hRu' hb1) hbX
  have hzX := blk_below hz hbX
  have HWX := Aside0.mk (show ∀ k, k < w.heap.size → X.heap[k]? = w.heap[k]? from fun k hk => (hbX.block k (Nat.lt_of_lt_of_le hk hb1.size)).trans (hb1.block k hk))
  have hbaseX : base ≤ X.heap.size := Nat.le_trans hbase (Nat.le_trans hb1.size hbX.size)
  have hwX : w.heap.size ≤ X.heap.size := Nat.le_trans hb1.size hbX.size
  have p0 := (blk_cell (blk_below hq hb1) 0).trans rfl
  have hgW : g < W.heap.size := by omega
  have HXX := Aside0.mk hX
  have HX := Aside0.mk hW
  obtain ⟨b4, hb4⟩ : ∃ b4, b4 = w.heap.size := ⟨_, rfl⟩
  obtain ⟨b6, hb6⟩ : ∃ b6, b6 = W.heap.size := ⟨_, rfl⟩
  rw [← hb4] at hzX hRX hhw hgz
  rw [← hb6] at hi6
  have Hb := Aside0.mk (And.intro hb4 hb6)
  have hb46 : b4 < b6 := by omega
  have HQ := Aside0.mk (And.intro hqX (And.intro hRX (And.intro hBX (And.intro hzX (And.intro hRuX (And.intro hi6 (And.intro hg (And.intro hbase (And.intro hbaseX hwX)))))))))
  generalize hnu : l.length = nu at *
  generalize hN : L.length = N at *
  clear hq hR hBW hz hRu hRu' hg hcc hfz hW hX hb4 hb6 hb1 hbX hx0 hh0 hcl hbase hB he hN hnu hR2 hi6 hBX hqX hRX hRuX hzX hbaseX hwX hWs
  go_enter Try.func22, Try.ntmps22
  go_wp2_with (rw [← HX.out])
  refine (is_any (i : Int) W g (some ⟨h, 0, none⟩) N c0 (by omega) p0).mono ?_
  rintro e w1 ⟨rfl, rfl⟩
  rw [decide_eq_true (show (0 : Int) ≤ (i : Int) ∧ (i : Int) < (N : Int) by omega)]
  go_wp2_with fail
  rw [← HXX.out, ← Hb.out.1, ← Hb.out.2]
  clear p0 hgW e0 e1 HXX HX
  refine (delete_any h N c0 i L X w0 base (fun k => ok k ∧ k ≠ b4) HQ.out.2.1 hi hL HQ.out.2.2.1 HQ.out.2.2.2.2.2.2.2.2.1).mono ?_
  rintro e w5 ⟨rfl, hR5, hB5, hg5⟩
  have hq5 := blk_grown HQ.out.1 hg5 hneh
  have hz5 := blk_grown HQ.out.2.2.2.1 hg5 (show some b4 ≠ some h by intro e; injection e; omega)
  have hi5 := blk_grown HQ.out.2.2.2.2.2.1 hg5 (show some b6 ≠ some h by intro e; injection e; omega)
  have hRu5 := Kd.R_grown HQ.out.2.2.2.2.1 hg5 (fun k hk => hk)
  have p0 := (blk_cell hq5 0).trans rfl
  have fq := blk_frozen hq5
  have z0 := (blk_cell hz5 0).trans rfl
  have z1 := (blk_cell hz5 1).trans rfl
  have fz := blk_frozen hz5
  have i0 := (blk_cell hi5 0).trans rfl
  have i1 := (blk_cell hi5 1).trans rfl
  have HV := Aside0.mk (And.intro hq5 (And.intro hz5 (And.intro hRu5 (And.intro hR5 (And.intro hB5 hg5)))))
  have hgb4 : g ≠ b4 := by omega
  have hgb6 : g ≠ b6 := by omega
  clear hq5 hz5 hi5 hRu5 hR5 hB5 hg5
  go_wp2
  obtain ⟨hq5, hz5, hRu5, hR5, hB5, hg5⟩ := HV.out
  have hz6 := (blk_set (blk_set (blk_far hz5 (p := ⟨g, 0, none⟩) hgb4.symm (.slice (some ⟨h, 0, none⟩) (N - 1) c0)) 0 (.int .i64 p)) 1 (.slice Au nu cu)).trans rfl
  refine bodyPost_ret (results_list (rs := [.cell 4 42, .tmp 5]) rfl (by simp) (.cell b4 42 #[.int .i64 p, .slice Au nu cu] (0, 0) _ rfl hz6 hu2 rfl (by kernel_rfl) (.tmp .nil))) rfl ?_
  refine ⟨_, rfl, ?_, ⟨_, (blk_far (blk_far (blk_set hq5 0 _) (p := ⟨b4, 0, none⟩) hgb4 _) (p := ⟨b4, 1, none⟩) hgb4 _), ?_⟩, ?_, ?_, ?_⟩
  · exact Kd.R_mono (Kd.R_set (Kd.R_set (Kd.R_set hRu5 hq5 (by decide) 0 _) (blk_far hz5 (p := ⟨g, 0, none⟩) hgb4.symm _) (by decide) 0 _) (blk_set (blk_far hz5 (p := ⟨g, 0, none⟩) hgb4.symm _) 0 _) (by decide) 1 _) (fun _ _ => trivial)
  · exact Kd.S_mono (Kd.S_far (Kd.S_far (Kd.S_set hR5 hq5 (by decide) 0 _) (p := ⟨b4, 0, none⟩) (fun k hk => hk.2) _) (p := ⟨b4, 1, none⟩) (fun k hk => hk.2) _) (fun k hk => hk.1)
  · have hb4b : base ≤ b4 := by rw [Hb.out.1]; exact HQ.out.2.2.2.2.2.2.2.1
    exact Below.setCell (Below.setCell (Below.setCell hB5 HQ.out.2.2.2.2.2.2.1 _) hb4b _) hb4b _
  · have := Nat.le_trans HQ.out.2.2.2.2.2.2.2.2.2 hg5.size
    simpa [World.setCell] using this
  · intro k hk hkg hnk
    have hkh : k ≠ h := fun e => hnk (by rw [e]; exact HOK.out)
    have hkb : k ≠ b4 := by have := Hb.out.1; omega
    have h5 := hg5.block k (Nat.lt_of_lt_of_le hk HQ.out.2.2.2.2.2.2.2.2.2) (fun e => hkh (by injection e))
    exact ((Below.heap_setCell _ ⟨b4, 1, none⟩ _ k hkb).trans ((Below.heap_setCell _ ⟨b4, 0, none⟩ _ k hkb).trans (Below.heap_setCell w5 ⟨g, 0, none⟩ _ k hkg))).trans (h5.trans (HWX.out k hk))
theorem take_in (i : Nat) (p : Int) (l : List Int) (w w0 : World) (base : Nat) (ok : Nat → Prop) (g : Nat) (L : List (Int × List Int)) (d : Int) (hQ : QS base ok w g L d) (hB : Below base w0 w) (hbase : base ≤ w.heap.size) (hg : base ≤ g) (hi : i < L.length) (hL : L.length ≤ 10000) (he : L.getD i (0, []) = (p, l)) :
    Calls Try.prog 22 #[.pointer (some ⟨g, 0, none⟩), .int .i64 (i : Int)] w fun e w' => ∃ u, e = .returned (.tuple #[.agg #[.int .i64 p, u], .bool true]) ∧ (Kd.int .u8).R 5 w' base (fun _ => True) u l ∧ QS base ok w' g (L.eraseIdx i) d ∧ Below base w0 w' ∧ w.heap.size ≤ w'.heap.size :=
  (take_in_fr i p l w w0 base ok g L d hQ hB hbase hg hi hL he).mono (fun e w' h => by obtain ⟨u, h1, h2, h3, h4, h5, _⟩ := h; exact ⟨u, h1, h2, h3, h4, h5⟩)
end Go.Proofs.Ytjcihhkeehjgdaa
