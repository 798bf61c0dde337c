/- wire.Read: the message. -/
import Derived.Test.YtbgbplbkombfjaaDoorWRMsg4
import Derived.Test.YtbgbplbkombfjaaDoorWRead
namespace Go.Proofs.YtbgbplbkombfjaaDoor
open Go.RowKit Go.Proofs.YtbgbplbkombfjaaDoorW.PrintWords SumPlain
set_option linter.unusedVariables false
set_option linter.unusedSimpArgs false
attribute [local go_sem] setCell_drewN alloc_drewN
theorem blk_drew {w : World} {g : Nat} {o : Option Obj} (h : w.heap[g]? = o) : w.drew.heap[g]? = o := h
theorem nil_C (w : World) : Kd.C (Kd.int .u32) w none 0 [] := by
  obtain ⟨A, c, he, _, hC⟩ := Kd.R_reads (Kd.R_nil (Kd.int .u32) 0 w 0 (fun _ => True))
  cases he
  exact hC
theorem msgR_1 (s : List Int × Bool) : msgR 1 s = (⟨1, (rA s).1, 0, 0, 0, (rN (rA s).2).1, 0, false, []⟩, 0, (rN (rA s).2).2) := by simp [msgR]
theorem msgR_2 (s : List Int × Bool) : msgR 2 s = (⟨2, (rA s).1, (rA (rA s).2).1, (rA (rA (rA s).2).2).1, (rA (rA (rA (rA s).2).2).2).1, 0, 0, false, []⟩, 0, (rA (rA (rA (rA s).2).2).2).2) := by simp [msgR]
theorem msgR_3 (s : List Int × Bool) : msgR 3 s = (⟨3, (rA s).1, 0, (rA (rA s).2).1, (rA (rA (rA s).2).2).1, 0, (rN (rA (rA (rA s).2).2).2).1, false, []⟩, 0, (rN (rA (rA (rA s).2).2).2).2) := by simp [msgR]
theorem msgR_4 (s : List Int × Bool) : msgR 4 s = (⟨4, (rA s).1, 0, 0, (rA (rA s).2).1, 0, 0, decide ((rB (rA (rA s).2).2).1 = 1), (rLs (rB (rB (rA (rA s).2).2).2).1.toNat (rB (rB (rA (rA s).2).2).2).2).1⟩, (rB (rA (rA s).2).2).1, (rLs (rB (rB (rA (rA s).2).2).2).1.toNat (rB (rB (rA (rA s).2).2).2).2).2) := by simp [msgR]
theorem msgR_5 (s : List Int × Bool) : msgR 5 s = (⟨5, (rA s).1, 0, 0, (rA (rA s).2).1, 0, 0, false, []⟩, 0, (rA (rA s).2).2) := by simp [msgR]
theorem msg_any (K : Int) (hK : 1 ≤ K ∧ K ≤ 5) (w0 w : World) (r : Nat) (s : List Int × Bool) (h : RS w0 w r s) (hby : Byt s.1) :
    Calls Tryd.prog 58 #[.pointer (some ⟨r, 0, none⟩), .int .i64 K] w fun e w' => ∃ v, e = .returned (.tuple #[.agg ((msgR K s).1.cells v), .int .u8 (msgR K s).2.1]) ∧ (Kd.int .u32).R 23 w' w.heap.size (fun i => w.heap.size ≤ i) v (msgR K s).1.l ∧ RS w0 w' r (msgR K s).2.2 ∧ Fr r w w' := by
  obtain rfl | rfl | rfl | rfl | rfl : K = 1 ∨ K = 2 ∨ K = 3 ∨ K = 4 ∨ K = 5 := by omega
  · rw [msgR_1]
    refine (rmsg1 w0 w r s h hby).mono ?_
    rintro e w' ⟨rfl, hS, hF⟩
    exact ⟨_, rfl, Kd.R_nil _ _ _ _ _, hS, hF⟩
  · rw [msgR_2]
    refine (rmsg2 w0 w r s h hby).mono ?_
    rintro e w' ⟨rfl, hS, hF⟩
    exact ⟨_, rfl, Kd.R_nil _ _ _ _ _, hS, hF⟩
  · rw [msgR_3]
    refine (rmsg3 w0 w r s h hby).mono ?_
    rintro e w' ⟨rfl, hS, hF⟩
    exact ⟨_, rfl, Kd.R_nil _ _ _ _ _, hS, hF⟩
  · rw [msgR_4]
    dsimp only
    refine (rmsg4 w0 w r s h hby).mono ?_
    rintro e w' ⟨v, rfl, hR, hS, hF⟩
    exact ⟨v, rfl, hR, hS, hF⟩
  · rw [msgR_5]
    refine (rmsg5 w0 w r s h hby).mono ?_
    rintro e w' ⟨rfl, hS, hF⟩
    exact ⟨_, rfl, Kd.R_nil _ _ _ _ _, hS, hF⟩
theorem msg_at (K : Int) (m : Msg) (o : Int) (rest : List Int) (bad : Bool) (hK : 1 ≤ K ∧ K ≤ 5) (w0 w : World) (r : Nat) (s : List Int × Bool) (hM : msgR K s = (m, o, (rest, bad))) (h : RS w0 w r s) (hby : Byt s.1) :
    Calls Tryd.prog 58 #[.pointer (some ⟨r, 0, none⟩), .int .i64 K] w fun e w' => ∃ v, e = .returned (.tuple #[.agg (m.cells v), .int .u8 o]) ∧ (Kd.int .u32).R 23 w' w.heap.size (fun i => w.heap.size ≤ i) v m.l ∧ RS w0 w' r (rest, bad) ∧ Fr r w w' := by
  have := msg_any K hK w0 w r s h hby
  rwa [hM] at this
set_option maxHeartbeats 4000000 in
set_option maxRecDepth 100000 in
theorem readm_end (E : Nat → Addr) (A : Option Addr) (n c : Nat) (l : List Int) (w : World) (K : Int) (m : Msg) (o : Int) (rest : List Int) (hE : Errs readErrs E w) (hr : Kd.C (Kd.int .u8) w A n l) (hby : Byt l) (hle : n ≤ c) (hl : l.length ≤ 1000000) (h4 : 4 ≤ n) (hz : ofL l = 0) (h1 : l.getD 1 0 = 0) (h0 : l.getD 0 0 = K + 32) (hK : 1 ≤ K ∧ K ≤ 5) (hM : msgR K (l.drop 4, false) = (m, o, (rest, true))) :
    Calls Tryd.prog 34 #[.slice A n c] w fun e w' => e = .returned (.tuple #[.agg #[.int .i64 0, .int .u32 0, .int .u32 0, .int .u32 0, .int .u32 0, .int .i64 0, .int .i64 0, .bool false, .slice none 0 0], errV E (some 1)]) ∧ Below w.heap.size w w' := by
  have hu := Tryd.underlying56
  have hu2 := Tryd.underlying94
  have hu3 := Tryd.underlying53
  have hb := below_alloc (Below.refl w.heap.size w) (.cells #[.int .i64 0, .int .u32 0, .int .u32 0, .int .u32 0, .int .u32 0, .int .i64 0, .int .i64 0, .bool false, .slice none 0 0] 56)
  have HR := Aside0.mk (And.intro (Kd.C_below hr hb) (And.intro hby hl))
  have hmx := Kd.C_max hr
  have hwf := msgR_wf K (l.drop 4, false) (byt_drop hby 4)
  have ho := msgR_only K (l.drop 4, false) (byt_drop hby 4)
  rw [hM] at hwf ho
  obtain ⟨o0, o1⟩ := ho
  simp only at o0 o1
  obtain ⟨x0, x1, x2, x3, x4, x5, x6, x7, lx⟩ := m
  obtain ⟨ad, b0, rfl, _, _⟩ := at_nat hr 0 (by omega)
  obtain ⟨A2, n2, c2, hle2, hd, hC2⟩ := drop_ex 26 5 .i64 Tryd.underlying26 Tryd.infoB hr hle 4 (by omega) (by omega)
  have c1 := cells_of hr 1 (by omega) (by omega)
  have c0 := cell0_of hr (by omega)
  rw [h1] at c1
  rw [h0] at c0
  obtain ⟨kk0, kk1⟩ := id hK
  have wk0 : IntKind.i64.wrap (K + 32) = K + 32 := IntWalk.i64_in _ (by omega)
  have hzt : decide (ofL l = 0) = true := decide_eq_true hz
  have HK := Aside0.mk (show decide (1 ≤ K ∧ K ≤ 5) = true from decide_eq_true hK)
  have HM := Aside0.mk (And.intro hM (And.intro hC2 (And.intro hle2 (And.intro hE (And.intro hwf (And.intro hK (byt_drop hby 4)))))))
  have hb0 := hb
  obtain ⟨W, hW⟩ : ∃ W, W = w.alloc (.cells #[.int .i64 0, .int .u32 0, .int .u32 0, .int .u32 0, .int .u32 0, .int .i64 0, .int .i64 0, .bool false, .slice none 0 0] 56) := ⟨_, rfl⟩
  have HX := Aside0.mk hW
  rw [← hW] at HR hb
  have hg : W.heap[w.heap.size]? = some (.cells #[.int .i64 0, .int .u32 0, .int .u32 0, .int .u32 0, .int .u32 0, .int .i64 0, .int .i64 0, .bool false, .slice none 0 0] 56 (0, 0)) := by rw [hW]; exact heap_alloc_new w _
  have c1 := pw_cell_below hb c1
  have c0 := pw_cell_below hb c0
  have HB := Aside0.mk (And.intro hb hg)
  clear hr hz hby hl h1 h0 hM hC2 hle2 hE hwf hK hb hb0 hW hg
  simp only [errV]
  go_enter Tryd.func34, Tryd.ntmps34
  go_wp2_with (rw [← HX.out])
  obtain ⟨hb, hg⟩ := HB.out
  obtain ⟨g, hgg⟩ : ∃ g, g = w.heap.size := ⟨_, rfl⟩
  rw [← hgg] at hg ⊢
  have HB := Aside0.mk (And.intro hb (And.intro hg hgg))
  clear hb hg hgg
  refine (check_any (some ad) n c l W HR.out.1 HR.out.2.1 HR.out.2.2).mono ?_
  rintro e w1 ⟨rfl, rfl⟩
  go_wp2_with fail
  refine (wkind_any K _).mono ?_
  rintro e w1 ⟨rfl, ⟨nq, rfl⟩⟩
  rw [HK.out]
  clear HK
  have hd9 : Below W.heap.size W (W.drewN nq) := pw_below_drewN (Below.refl _ _) _
  obtain ⟨W2, hW2⟩ : ∃ W2, W2 = W.drewN nq := ⟨_, rfl⟩
  rw [← hW2] at hd9 ⊢
  have c1 := pw_cell_below hd9 c1
  have c0 := pw_cell_below hd9 c0
  obtain ⟨hb, hg, hgg⟩ := HB.out
  have hg := blk_below hg hd9
  have hb2 := reach_to' hb hb.size hd9
  have hgl : g < W2.heap.size := blk_lt hg
  have HB := Aside0.mk (And.intro hb2 (And.intro hg hgg))
  clear hb hg hgg hb2 hd9 hW2 HX HR
  have c0 := pw_cell_below (below_alloc (Below.refl W2.heap.size W2) (.cells #[.slice A2 n2 c2, .bool false] 94)) c0
  go_wp2_with fail
  obtain ⟨X, hX⟩ : ∃ X, X = W2.alloc (.cells #[.slice A2 n2 c2, .bool false] 94) := ⟨_, rfl⟩
  rw [← hX]
  have hbX : Below W2.heap.size W2 X := by rw [hX]; exact below_alloc (Below.refl _ _) _
  have hrX : X.heap[W2.heap.size]? = some (.cells #[.slice A2 n2 c2, .bool false] 94 (0, 0)) := by rw [hX]; exact heap_alloc_new _ _
  obtain ⟨r, hr⟩ : ∃ r, r = W2.heap.size := ⟨_, rfl⟩
  rw [← hr] at hrX hgl ⊢
  obtain ⟨hb2, hg, hgg⟩ := HB.out
  have hg := blk_below hg hbX
  have hb3 := reach_to' hb2 hb2.size hbX
  have hS : RS w X r (l.drop (4 : Int).toNat, false) := ⟨⟨A2, n2, c2, hrX, HM.out.2.2.1, HM.out.2.1⟩, hb3, by have := hb2.size; omega⟩
  clear hbX hrX hX hb2 HB
  refine (msg_at K ⟨x0, x1, x2, x3, x4, x5, x6, x7, lx⟩ o rest true HM.out.2.2.2.2.2.1 w X r (l.drop 4, false) HM.out.1 hS HM.out.2.2.2.2.2.2).mono ?_
  rintro e y1 ⟨v1, rfl, hR1, hS1, hF1⟩
  obtain ⟨A1, c1', rfl⟩ := Kd.R_slice hR1
  generalize hln : (Msg.l ⟨x0, x1, x2, x3, x4, x5, x6, x7, lx⟩).length = n1 at *
  clear hln
  have hgX : g < X.heap.size := blk_lt hg
  have hg := hF1.blk (show g ≠ r by omega) hg
  have hgy1 : g < y1.heap.size := blk_lt hg
  have hR1 := Kd.R_mono hR1 (ok' := fun k => k ≠ g) (fun k hk => by omega)
  obtain ⟨⟨A4, n4, c4, hr4, hle4, hC4⟩, hB4, hlt4⟩ := hS1
  simp only [Msg.cells]
  obtain ⟨Y, hY⟩ : ∃ Y, Y = y1.alloc (.cells #[.int .i64 x0, .int .u32 x1, .int .u32 x2, .int .u32 x3, .int .u32 x4, .int .i64 x5, .int .i64 x6, .bool x7, .slice A1 n1 c1'] 56) := ⟨_, rfl⟩
  have hbY : Below y1.heap.size y1 Y := by rw [hY]; exact below_alloc (Below.refl _ _) _
  have hq : Y.heap[y1.heap.size]? = some (.cells #[.int .i64 x0, .int .u32 x1, .int .u32 x2, .int .u32 x3, .int .u32 x4, .int .i64 x5, .int .i64 x6, .bool x7, .slice A1 n1 c1'] 56 (0, 0)) := by rw [hY]; exact heap_alloc_new _ _
  have hg := blk_below hg hbY
  have hr4 := blk_below hr4 hbY
  have hbw := reach_to' hB4 hB4.size hbY
  have hR1 := Kd.R_below hR1 hbY
  have hn4 : rest.length = n4 := hC4.1
  have f0 := (blk_cell hr4 0).trans rfl
  have f1 := (blk_cell hr4 1).trans rfl
  have hmx4 := Kd.C_max hC4
  have HX := Aside0.mk hY
  have hEY := HM.out.2.2.2.1.below hbw
  have hgw : w.heap.size ≤ g := by omega
  have HQ := Aside0.mk (And.intro hg (And.intro hbw (And.intro hR1 (And.intro hEY (And.intro hq (And.intro HM.out.2.2.2.2.1 hgw))))))
  clear hbY hr4 hR1 hC4 hB4 hS hF1 hY hb3 hgX
  have hgr : g < r := hgl
  clear hr hgg hgw
  have hrx : r < Y.heap.size := World.block_lt_of_cell? Y _ f0
  have hgn0 := World.block_lt_of_cell? w _ (HM.out.2.2.2.1.cell 1 (by simp [readErrs]))
  have hgn : (1 : Nat) ≠ g := by have := HQ.out.2.2.2.2.2.2; simp only at hgn0; omega
  have hgn' : g ≠ (1 : Nat) := fun h => hgn h.symm
  clear hgn0
  have hc := hEY.cell 1 (by simp [readErrs])
  have p0 := (blk_cell hg 0).trans rfl
  have p1 := (blk_cell hg 1).trans rfl
  have p2 := (blk_cell hg 2).trans rfl
  have p3 := (blk_cell hg 3).trans rfl
  have p4 := (blk_cell hg 4).trans rfl
  have p5 := (blk_cell hg 5).trans rfl
  have p6 := (blk_cell hg 6).trans rfl
  have p7 := (blk_cell hg 7).trans rfl
  have p8 := (blk_cell hg 8).trans rfl
  have fg := blk_frozen hg
  have hgY : g < Y.heap.size := blk_lt hg
  clear hg hq hbw hEY
  go_wp2_with (rw [← HX.out])
  go_region
  all_goals go_wp2
  all_goals obtain ⟨hg, hbw, _, _, _, _, hgw⟩ := HQ.out
  all_goals refine bodyPost_ret (results_cell_row2 rfl _ _ g 56 #[.int .i64 0, .int .u32 0, .int .u32 0, .int .u32 0, .int .u32 0, .int .i64 0, .int .i64 0, .bool false, .slice none 0 0] (0, 0) _ rfl (blk_drew (blk_put9 hg)) hu rfl (by kernel_rfl)) rfl ?_
  all_goals exact ⟨rfl, (below_drew (Below.setCell (Below.setCell (Below.setCell (Below.setCell (Below.setCell (Below.setCell (Below.setCell (Below.setCell (Below.setCell hbw hgw _) hgw _) hgw _) hgw _) hgw _) hgw _) hgw _) hgw _) hgw _))⟩
set_option maxHeartbeats 4000000 in
set_option maxRecDepth 100000 in
theorem readm_long (E : Nat → Addr) (A : Option Addr) (n c : Nat) (l : List Int) (w : World) (K : Int) (m : Msg) (o : Int) (rest : List Int) (hx : 0 < rest.length) (hE : Errs readErrs E w) (hr : Kd.C (Kd.int .u8) w A n l) (hby : Byt l) (hle : n ≤ c) (hl : l.length ≤ 1000000) (h4 : 4 ≤ n) (hz : ofL l = 0) (h1 : l.getD 1 0 = 0) (h0 : l.getD 0 0 = K + 32) (hK : 1 ≤ K ∧ K ≤ 5) (hM : msgR K (l.drop 4, false) = (m, o, (rest, false))) :
    Calls Tryd.prog 34 #[.slice A n c] w fun e w' => e = .returned (.tuple #[.agg #[.int .i64 0, .int .u32 0, .int .u32 0, .int .u32 0, .int .u32 0, .int .i64 0, .int .i64 0, .bool false, .slice none 0 0], errV E (some 2)]) ∧ Below w.heap.size w w' := by
  have hu := Tryd.underlying56
  have hu2 := Tryd.underlying94
  have hu3 := Tryd.underlying53
  have hb := below_alloc (Below.refl w.heap.size w) (.cells #[.int .i64 0, .int .u32 0, .int .u32 0, .int .u32 0, .int .u32 0, .int .i64 0, .int .i64 0, .bool false, .slice none 0 0] 56)
  have HR := Aside0.mk (And.intro (Kd.C_below hr hb) (And.intro hby hl))
  have hmx := Kd.C_max hr
  have hwf := msgR_wf K (l.drop 4, false) (byt_drop hby 4)
  have ho := msgR_only K (l.drop 4, false) (byt_drop hby 4)
  rw [hM] at hwf ho
  obtain ⟨o0, o1⟩ := ho
  simp only at o0 o1
  obtain ⟨x0, x1, x2, x3, x4, x5, x6, x7, lx⟩ := m
  obtain ⟨ad, b0, rfl, _, _⟩ := at_nat hr 0 (by omega)
  obtain ⟨A2, n2, c2, hle2, hd, hC2⟩ := drop_ex 26 5 .i64 Tryd.underlying26 Tryd.infoB hr hle 4 (by omega) (by omega)
  have c1 := cells_of hr 1 (by omega) (by omega)
  have c0 := cell0_of hr (by omega)
  rw [h1] at c1
  rw [h0] at c0
  obtain ⟨kk0, kk1⟩ := id hK
  have wk0 : IntKind.i64.wrap (K + 32) = K + 32 := IntWalk.i64_in _ (by omega)
  have hzt : decide (ofL l = 0) = true := decide_eq_true hz
  have HK := Aside0.mk (show decide (1 ≤ K ∧ K ≤ 5) = true from decide_eq_true hK)
  have HM := Aside0.mk (And.intro hM (And.intro hC2 (And.intro hle2 (And.intro hE (And.intro hwf (And.intro hK (byt_drop hby 4)))))))
  have hb0 := hb
  obtain ⟨W, hW⟩ : ∃ W, W = w.alloc (.cells #[.int .i64 0, .int .u32 0, .int .u32 0, .int .u32 0, .int .u32 0, .int .i64 0, .int .i64 0, .bool false, .slice none 0 0] 56) := ⟨_, rfl⟩
  have HX := Aside0.mk hW
  rw [← hW] at HR hb
  have hg : W.heap[w.heap.size]? = some (.cells #[.int .i64 0, .int .u32 0, .int .u32 0, .int .u32 0, .int .u32 0, .int .i64 0, .int .i64 0, .bool false, .slice none 0 0] 56 (0, 0)) := by rw [hW]; exact heap_alloc_new w _
  have c1 := pw_cell_below hb c1
  have c0 := pw_cell_below hb c0
  have HB := Aside0.mk (And.intro hb hg)
  clear hr hz hby hl h1 h0 hM hC2 hle2 hE hwf hK hb hb0 hW hg
  simp only [errV]
  go_enter Tryd.func34, Tryd.ntmps34
  go_wp2_with (rw [← HX.out])
  obtain ⟨hb, hg⟩ := HB.out
  obtain ⟨g, hgg⟩ : ∃ g, g = w.heap.size := ⟨_, rfl⟩
  rw [← hgg] at hg ⊢
  have HB := Aside0.mk (And.intro hb (And.intro hg hgg))
  clear hb hg hgg
  refine (check_any (some ad) n c l W HR.out.1 HR.out.2.1 HR.out.2.2).mono ?_
  rintro e w1 ⟨rfl, rfl⟩
  go_wp2_with fail
  refine (wkind_any K _).mono ?_
  rintro e w1 ⟨rfl, ⟨nq, rfl⟩⟩
  rw [HK.out]
  clear HK
  have hd9 : Below W.heap.size W (W.drewN nq) := pw_below_drewN (Below.refl _ _) _
  obtain ⟨W2, hW2⟩ : ∃ W2, W2 = W.drewN nq := ⟨_, rfl⟩
  rw [← hW2] at hd9 ⊢
  have c1 := pw_cell_below hd9 c1
  have c0 := pw_cell_below hd9 c0
  obtain ⟨hb, hg, hgg⟩ := HB.out
  have hg := blk_below hg hd9
  have hb2 := reach_to' hb hb.size hd9
  have hgl : g < W2.heap.size := blk_lt hg
  have HB := Aside0.mk (And.intro hb2 (And.intro hg hgg))
  clear hb hg hgg hb2 hd9 hW2 HX HR
  have c0 := pw_cell_below (below_alloc (Below.refl W2.heap.size W2) (.cells #[.slice A2 n2 c2, .bool false] 94)) c0
  go_wp2_with fail
  obtain ⟨X, hX⟩ : ∃ X, X = W2.alloc (.cells #[.slice A2 n2 c2, .bool false] 94) := ⟨_, rfl⟩
  rw [← hX]
  have hbX : Below W2.heap.size W2 X := by rw [hX]; exact below_alloc (Below.refl _ _) _
  have hrX : X.heap[W2.heap.size]? = some (.cells #[.slice A2 n2 c2, .bool false] 94 (0, 0)) := by rw [hX]; exact heap_alloc_new _ _
  obtain ⟨r, hr⟩ : ∃ r, r = W2.heap.size := ⟨_, rfl⟩
  rw [← hr] at hrX hgl ⊢
  obtain ⟨hb2, hg, hgg⟩ := HB.out
  have hg := blk_below hg hbX
  have hb3 := reach_to' hb2 hb2.size hbX
  have hS : RS w X r (l.drop (4 : Int).toNat, false) := ⟨⟨A2, n2, c2, hrX, HM.out.2.2.1, HM.out.2.1⟩, hb3, by have := hb2.size; omega⟩
  clear hbX hrX hX hb2 HB
  refine (msg_at K ⟨x0, x1, x2, x3, x4, x5, x6, x7, lx⟩ o rest false HM.out.2.2.2.2.2.1 w X r (l.drop 4, false) HM.out.1 hS HM.out.2.2.2.2.2.2).mono ?_
  rintro e y1 ⟨v1, rfl, hR1, hS1, hF1⟩
  obtain ⟨A1, c1', rfl⟩ := Kd.R_slice hR1
  generalize hln : (Msg.l ⟨x0, x1, x2, x3, x4, x5, x6, x7, lx⟩).length = n1 at *
  clear hln
  have hgX : g < X.heap.size := blk_lt hg
  have hg := hF1.blk (show g ≠ r by omega) hg
  have hgy1 : g < y1.heap.size := blk_lt hg
  have hR1 := Kd.R_mono hR1 (ok' := fun k => k ≠ g) (fun k hk => by omega)
  obtain ⟨⟨A4, n4, c4, hr4, hle4, hC4⟩, hB4, hlt4⟩ := hS1
  simp only [Msg.cells]
  obtain ⟨Y, hY⟩ : ∃ Y, Y = y1.alloc (.cells #[.int .i64 x0, .int .u32 x1, .int .u32 x2, .int .u32 x3, .int .u32 x4, .int .i64 x5, .int .i64 x6, .bool x7, .slice A1 n1 c1'] 56) := ⟨_, rfl⟩
  have hbY : Below y1.heap.size y1 Y := by rw [hY]; exact below_alloc (Below.refl _ _) _
  have hq : Y.heap[y1.heap.size]? = some (.cells #[.int .i64 x0, .int .u32 x1, .int .u32 x2, .int .u32 x3, .int .u32 x4, .int .i64 x5, .int .i64 x6, .bool x7, .slice A1 n1 c1'] 56 (0, 0)) := by rw [hY]; exact heap_alloc_new _ _
  have hg := blk_below hg hbY
  have hr4 := blk_below hr4 hbY
  have hbw := reach_to' hB4 hB4.size hbY
  have hR1 := Kd.R_below hR1 hbY
  have hn4 : rest.length = n4 := hC4.1
  have f0 := (blk_cell hr4 0).trans rfl
  have f1 := (blk_cell hr4 1).trans rfl
  have hmx4 := Kd.C_max hC4
  have HX := Aside0.mk hY
  have hEY := HM.out.2.2.2.1.below hbw
  have hgw : w.heap.size ≤ g := by omega
  have HQ := Aside0.mk (And.intro hg (And.intro hbw (And.intro hR1 (And.intro hEY (And.intro hq (And.intro HM.out.2.2.2.2.1 hgw))))))
  clear hbY hr4 hR1 hC4 hB4 hS hF1 hY hb3 hgX
  have hgr : g < r := hgl
  clear hr hgg hgw
  have hrx : r < Y.heap.size := World.block_lt_of_cell? Y _ f0
  have hx' : 0 < n4 := by omega
  clear hx
  have hgn0 := World.block_lt_of_cell? w _ (HM.out.2.2.2.1.cell 2 (by simp [readErrs]))
  have hgn : (2 : Nat) ≠ g := by have := HQ.out.2.2.2.2.2.2; simp only at hgn0; omega
  have hgn' : g ≠ (2 : Nat) := fun h => hgn h.symm
  clear hgn0
  have hc := hEY.cell 2 (by simp [readErrs])
  have p0 := (blk_cell hg 0).trans rfl
  have p1 := (blk_cell hg 1).trans rfl
  have p2 := (blk_cell hg 2).trans rfl
  have p3 := (blk_cell hg 3).trans rfl
  have p4 := (blk_cell hg 4).trans rfl
  have p5 := (blk_cell hg 5).trans rfl
  have p6 := (blk_cell hg 6).trans rfl
  have p7 := (blk_cell hg 7).trans rfl
  have p8 := (blk_cell hg 8).trans rfl
  have fg := blk_frozen hg
  have hgY : g < Y.heap.size := blk_lt hg
  clear hg hq hbw hEY
  go_wp2_with (rw [← HX.out])
  go_region
  all_goals go_wp2
  all_goals obtain ⟨hg, hbw, _, _, _, _, hgw⟩ := HQ.out
  all_goals refine bodyPost_ret (results_cell_row2 rfl _ _ g 56 #[.int .i64 0, .int .u32 0, .int .u32 0, .int .u32 0, .int .u32 0, .int .i64 0, .int .i64 0, .bool false, .slice none 0 0] (0, 0) _ rfl (blk_drew (blk_put9 hg)) hu rfl (by kernel_rfl)) rfl ?_
  all_goals exact ⟨rfl, (below_drew (Below.setCell (Below.setCell (Below.setCell (Below.setCell (Below.setCell (Below.setCell (Below.setCell (Below.setCell (Below.setCell hbw hgw _) hgw _) hgw _) hgw _) hgw _) hgw _) hgw _) hgw _) hgw _))⟩
set_option maxHeartbeats 4000000 in
set_option maxRecDepth 100000 in
theorem readm_only (E : Nat → Addr) (A : Option Addr) (n c : Nat) (l : List Int) (w : World) (K : Int) (m : Msg) (o : Int) (rest : List Int) (hx : rest.length = 0) (hx2 : 1 < o) (hE : Errs readErrs E w) (hr : Kd.C (Kd.int .u8) w A n l) (hby : Byt l) (hle : n ≤ c) (hl : l.length ≤ 1000000) (h4 : 4 ≤ n) (hz : ofL l = 0) (h1 : l.getD 1 0 = 0) (h0 : l.getD 0 0 = K + 32) (hK : 1 ≤ K ∧ K ≤ 5) (hM : msgR K (l.drop 4, false) = (m, o, (rest, false))) :
    Calls Tryd.prog 34 #[.slice A n c] w fun e w' => e = .returned (.tuple #[.agg #[.int .i64 0, .int .u32 0, .int .u32 0, .int .u32 0, .int .u32 0, .int .i64 0, .int .i64 0, .bool false, .slice none 0 0], errV E (some 2)]) ∧ Below w.heap.size w w' := by
  have hu := Tryd.underlying56
  have hu2 := Tryd.underlying94
  have hu3 := Tryd.underlying53
  have hb := below_alloc (Below.refl w.heap.size w) (.cells #[.int .i64 0, .int .u32 0, .int .u32 0, .int .u32 0, .int .u32 0, .int .i64 0, .int .i64 0, .bool false, .slice none 0 0] 56)
  have HR := Aside0.mk (And.intro (Kd.C_below hr hb) (And.intro hby hl))
  have hmx := Kd.C_max hr
  have hwf := msgR_wf K (l.drop 4, false) (byt_drop hby 4)
  have ho := msgR_only K (l.drop 4, false) (byt_drop hby 4)
  rw [hM] at hwf ho
  obtain ⟨o0, o1⟩ := ho
  simp only at o0 o1
  obtain ⟨x0, x1, x2, x3, x4, x5, x6, x7, lx⟩ := m
  obtain ⟨ad, b0, rfl, _, _⟩ := at_nat hr 0 (by omega)
  obtain ⟨A2, n2, c2, hle2, hd, hC2⟩ := drop_ex 26 5 .i64 Tryd.underlying26 Tryd.infoB hr hle 4 (by omega) (by omega)
  have c1 := cells_of hr 1 (by omega) (by omega)
  have c0 := cell0_of hr (by omega)
  rw [h1] at c1
  rw [h0] at c0
  obtain ⟨kk0, kk1⟩ := id hK
  have wk0 : IntKind.i64.wrap (K + 32) = K + 32 := IntWalk.i64_in _ (by omega)
  have hzt : decide (ofL l = 0) = true := decide_eq_true hz
  have HK := Aside0.mk (show decide (1 ≤ K ∧ K ≤ 5) = true from decide_eq_true hK)
  have HM := Aside0.mk (And.intro hM (And.intro hC2 (And.intro hle2 (And.intro hE (And.intro hwf (And.intro hK (byt_drop hby 4)))))))
  have hb0 := hb
  obtain ⟨W, hW⟩ : ∃ W, W = w.alloc (.cells #[.int .i64 0, .int .u32 0, .int .u32 0, .int .u32 0, .int .u32 0, .int .i64 0, .int .i64 0, .bool false, .slice none 0 0] 56) := ⟨_, rfl⟩
  have HX := Aside0.mk hW
  rw [← hW] at HR hb
  have hg : W.heap[w.heap.size]? = some (.cells #[.int .i64 0, .int .u32 0, .int .u32 0, .int .u32 0, .int .u32 0, .int .i64 0, .int .i64 0, .bool false, .slice none 0 0] 56 (0, 0)) := by rw [hW]; exact heap_alloc_new w _
  have c1 := pw_cell_below hb c1
  have c0 := pw_cell_below hb c0
  have HB := Aside0.mk (And.intro hb hg)
  clear hr hz hby hl h1 h0 hM hC2 hle2 hE hwf hK hb hb0 hW hg
  simp only [errV]
  go_enter Tryd.func34, Tryd.ntmps34
  go_wp2_with (rw [← HX.out])
  obtain ⟨hb, hg⟩ := HB.out
  obtain ⟨g, hgg⟩ : ∃ g, g = w.heap.size := ⟨_, rfl⟩
  rw [← hgg] at hg ⊢
  have HB := Aside0.mk (And.intro hb (And.intro hg hgg))
  clear hb hg hgg
  refine (check_any (some ad) n c l W HR.out.1 HR.out.2.1 HR.out.2.2).mono ?_
  rintro e w1 ⟨rfl, rfl⟩
  go_wp2_with fail
  refine (wkind_any K _).mono ?_
  rintro e w1 ⟨rfl, ⟨nq, rfl⟩⟩
  rw [HK.out]
  clear HK
  have hd9 : Below W.heap.size W (W.drewN nq) := pw_below_drewN (Below.refl _ _) _
  obtain ⟨W2, hW2⟩ : ∃ W2, W2 = W.drewN nq := ⟨_, rfl⟩
  rw [← hW2] at hd9 ⊢
  have c1 := pw_cell_below hd9 c1
  have c0 := pw_cell_below hd9 c0
  obtain ⟨hb, hg, hgg⟩ := HB.out
  have hg := blk_below hg hd9
  have hb2 := reach_to' hb hb.size hd9
  have hgl : g < W2.heap.size := blk_lt hg
  have HB := Aside0.mk (And.intro hb2 (And.intro hg hgg))
  clear hb hg hgg hb2 hd9 hW2 HX HR
  have c0 := pw_cell_below (below_alloc (Below.refl W2.heap.size W2) (.cells #[.slice A2 n2 c2, .bool false] 94)) c0
  go_wp2_with fail
  obtain ⟨X, hX⟩ : ∃ X, X = W2.alloc (.cells #[.slice A2 n2 c2, .bool false] 94) := ⟨_, rfl⟩
  rw [← hX]
  have hbX : Below W2.heap.size W2 X := by rw [hX]; exact below_alloc (Below.refl _ _) _
  have hrX : X.heap[W2.heap.size]? = some (.cells #[.slice A2 n2 c2, .bool false] 94 (0, 0)) := by rw [hX]; exact heap_alloc_new _ _
  obtain ⟨r, hr⟩ : ∃ r, r = W2.heap.size := ⟨_, rfl⟩
  rw [← hr] at hrX hgl ⊢
  obtain ⟨hb2, hg, hgg⟩ := HB.out
  have hg := blk_below hg hbX
  have hb3 := reach_to' hb2 hb2.size hbX
  have hS : RS w X r (l.drop (4 : Int).toNat, false) := ⟨⟨A2, n2, c2, hrX, HM.out.2.2.1, HM.out.2.1⟩, hb3, by have := hb2.size; omega⟩
  clear hbX hrX hX hb2 HB
  refine (msg_at K ⟨x0, x1, x2, x3, x4, x5, x6, x7, lx⟩ o rest false HM.out.2.2.2.2.2.1 w X r (l.drop 4, false) HM.out.1 hS HM.out.2.2.2.2.2.2).mono ?_
  rintro e y1 ⟨v1, rfl, hR1, hS1, hF1⟩
  obtain ⟨A1, c1', rfl⟩ := Kd.R_slice hR1
  generalize hln : (Msg.l ⟨x0, x1, x2, x3, x4, x5, x6, x7, lx⟩).length = n1 at *
  clear hln
  have hgX : g < X.heap.size := blk_lt hg
  have hg := hF1.blk (show g ≠ r by omega) hg
  have hgy1 : g < y1.heap.size := blk_lt hg
  have hR1 := Kd.R_mono hR1 (ok' := fun k => k ≠ g) (fun k hk => by omega)
  obtain ⟨⟨A4, n4, c4, hr4, hle4, hC4⟩, hB4, hlt4⟩ := hS1
  simp only [Msg.cells]
  obtain ⟨Y, hY⟩ : ∃ Y, Y = y1.alloc (.cells #[.int .i64 x0, .int .u32 x1, .int .u32 x2, .int .u32 x3, .int .u32 x4, .int .i64 x5, .int .i64 x6, .bool x7, .slice A1 n1 c1'] 56) := ⟨_, rfl⟩
  have hbY : Below y1.heap.size y1 Y := by rw [hY]; exact below_alloc (Below.refl _ _) _
  have hq : Y.heap[y1.heap.size]? = some (.cells #[.int .i64 x0, .int .u32 x1, .int .u32 x2, .int .u32 x3, .int .u32 x4, .int .i64 x5, .int .i64 x6, .bool x7, .slice A1 n1 c1'] 56 (0, 0)) := by rw [hY]; exact heap_alloc_new _ _
  have hg := blk_below hg hbY
  have hr4 := blk_below hr4 hbY
  have hbw := reach_to' hB4 hB4.size hbY
  have hR1 := Kd.R_below hR1 hbY
  have hn4 : rest.length = n4 := hC4.1
  have f0 := (blk_cell hr4 0).trans rfl
  have f1 := (blk_cell hr4 1).trans rfl
  have hmx4 := Kd.C_max hC4
  have HX := Aside0.mk hY
  have hEY := HM.out.2.2.2.1.below hbw
  have hgw : w.heap.size ≤ g := by omega
  have HQ := Aside0.mk (And.intro hg (And.intro hbw (And.intro hR1 (And.intro hEY (And.intro hq (And.intro HM.out.2.2.2.2.1 hgw))))))
  clear hbY hr4 hR1 hC4 hB4 hS hF1 hY hb3 hgX
  have hgr : g < r := hgl
  clear hr hgg hgw
  have hrx : r < Y.heap.size := World.block_lt_of_cell? Y _ f0
  obtain rfl : n4 = 0 := by omega
  have hx2' : decide (1 < o) = true := decide_eq_true hx2
  clear hx
  have hgn0 := World.block_lt_of_cell? w _ (HM.out.2.2.2.1.cell 2 (by simp [readErrs]))
  have hgn : (2 : Nat) ≠ g := by have := HQ.out.2.2.2.2.2.2; simp only at hgn0; omega
  have hgn' : g ≠ (2 : Nat) := fun h => hgn h.symm
  clear hgn0
  have hc := hEY.cell 2 (by simp [readErrs])
  have p0 := (blk_cell hg 0).trans rfl
  have p1 := (blk_cell hg 1).trans rfl
  have p2 := (blk_cell hg 2).trans rfl
  have p3 := (blk_cell hg 3).trans rfl
  have p4 := (blk_cell hg 4).trans rfl
  have p5 := (blk_cell hg 5).trans rfl
  have p6 := (blk_cell hg 6).trans rfl
  have p7 := (blk_cell hg 7).trans rfl
  have p8 := (blk_cell hg 8).trans rfl
  have fg := blk_frozen hg
  have hgY : g < Y.heap.size := blk_lt hg
  clear hg hq hbw hEY
  go_wp2_with (rw [← HX.out])
  go_region
  all_goals go_wp2
  all_goals obtain ⟨hg, hbw, _, _, _, _, hgw⟩ := HQ.out
  all_goals refine bodyPost_ret (results_cell_row2 rfl _ _ g 56 #[.int .i64 0, .int .u32 0, .int .u32 0, .int .u32 0, .int .u32 0, .int .i64 0, .int .i64 0, .bool false, .slice none 0 0] (0, 0) _ rfl (blk_drew (blk_put9 hg)) hu rfl (by kernel_rfl)) rfl ?_
  all_goals exact ⟨rfl, (below_drew (Below.setCell (Below.setCell (Below.setCell (Below.setCell (Below.setCell (Below.setCell (Below.setCell (Below.setCell (Below.setCell hbw hgw _) hgw _) hgw _) hgw _) hgw _) hgw _) hgw _) hgw _) hgw _))⟩
set_option maxHeartbeats 4000000 in
set_option maxRecDepth 100000 in
theorem readm_bad (E : Nat → Addr) (A : Option Addr) (n c : Nat) (l : List Int) (w : World) (K : Int) (m : Msg) (o : Int) (rest : List Int) (k : Nat) (hv : validL m = some k) (hx : rest.length = 0) (hx2 : o ≤ 1) (hE : Errs readErrs E w) (hr : Kd.C (Kd.int .u8) w A n l) (hby : Byt l) (hle : n ≤ c) (hl : l.length ≤ 1000000) (h4 : 4 ≤ n) (hz : ofL l = 0) (h1 : l.getD 1 0 = 0) (h0 : l.getD 0 0 = K + 32) (hK : 1 ≤ K ∧ K ≤ 5) (hM : msgR K (l.drop 4, false) = (m, o, (rest, false))) :
    Calls Tryd.prog 34 #[.slice A n c] w fun e w' => e = .returned (.tuple #[.agg #[.int .i64 0, .int .u32 0, .int .u32 0, .int .u32 0, .int .u32 0, .int .i64 0, .int .i64 0, .bool false, .slice none 0 0], errV E (some k)]) ∧ Below w.heap.size w w' := by
  have hu := Tryd.underlying56
  have hu2 := Tryd.underlying94
  have hu3 := Tryd.underlying53
  have hb := below_alloc (Below.refl w.heap.size w) (.cells #[.int .i64 0, .int .u32 0, .int .u32 0, .int .u32 0, .int .u32 0, .int .i64 0, .int .i64 0, .bool false, .slice none 0 0] 56)
  have HR := Aside0.mk (And.intro (Kd.C_below hr hb) (And.intro hby hl))
  have hmx := Kd.C_max hr
  have hwf := msgR_wf K (l.drop 4, false) (byt_drop hby 4)
  have ho := msgR_only K (l.drop 4, false) (byt_drop hby 4)
  rw [hM] at hwf ho
  obtain ⟨o0, o1⟩ := ho
  simp only at o0 o1
  obtain ⟨x0, x1, x2, x3, x4, x5, x6, x7, lx⟩ := m
  obtain ⟨ad, b0, rfl, _, _⟩ := at_nat hr 0 (by omega)
  obtain ⟨A2, n2, c2, hle2, hd, hC2⟩ := drop_ex 26 5 .i64 Tryd.underlying26 Tryd.infoB hr hle 4 (by omega) (by omega)
  have c1 := cells_of hr 1 (by omega) (by omega)
  have c0 := cell0_of hr (by omega)
  rw [h1] at c1
  rw [h0] at c0
  obtain ⟨kk0, kk1⟩ := id hK
  have wk0 : IntKind.i64.wrap (K + 32) = K + 32 := IntWalk.i64_in _ (by omega)
  have hzt : decide (ofL l = 0) = true := decide_eq_true hz
  have HK := Aside0.mk (show decide (1 ≤ K ∧ K ≤ 5) = true from decide_eq_true hK)
  have HM := Aside0.mk (And.intro hM (And.intro hC2 (And.intro hle2 (And.intro hE (And.intro hwf (And.intro hK (byt_drop hby 4)))))))
  have hb0 := hb
  obtain ⟨W, hW⟩ : ∃ W, W = w.alloc (.cells #[.int .i64 0, .int .u32 0, .int .u32 0, .int .u32 0, .int .u32 0, .int .i64 0, .int .i64 0, .bool false, .slice none 0 0] 56) := ⟨_, rfl⟩
  have HX := Aside0.mk hW
  rw [← hW] at HR hb
  have hg : W.heap[w.heap.size]? = some (.cells #[.int .i64 0, .int .u32 0, .int .u32 0, .int .u32 0, .int .u32 0, .int .i64 0, .int .i64 0, .bool false, .slice none 0 0] 56 (0, 0)) := by rw [hW]; exact heap_alloc_new w _
  have c1 := pw_cell_below hb c1
  have c0 := pw_cell_below hb c0
  have HB := Aside0.mk (And.intro hb hg)
  clear hr hz hby hl h1 h0 hM hC2 hle2 hE hwf hK hb hb0 hW hg
  simp only [errV]
  go_enter Tryd.func34, Tryd.ntmps34
  go_wp2_with (rw [← HX.out])
  obtain ⟨hb, hg⟩ := HB.out
  obtain ⟨g, hgg⟩ : ∃ g, g = w.heap.size := ⟨_, rfl⟩
  rw [← hgg] at hg ⊢
  have HB := Aside0.mk (And.intro hb (And.intro hg hgg))
  clear hb hg hgg
  refine (check_any (some ad) n c l W HR.out.1 HR.out.2.1 HR.out.2.2).mono ?_
  rintro e w1 ⟨rfl, rfl⟩
  go_wp2_with fail
  refine (wkind_any K _).mono ?_
  rintro e w1 ⟨rfl, ⟨nq, rfl⟩⟩
  rw [HK.out]
  clear HK
  have hd9 : Below W.heap.size W (W.drewN nq) := pw_below_drewN (Below.refl _ _) _
  obtain ⟨W2, hW2⟩ : ∃ W2, W2 = W.drewN nq := ⟨_, rfl⟩
  rw [← hW2] at hd9 ⊢
  have c1 := pw_cell_below hd9 c1
  have c0 := pw_cell_below hd9 c0
  obtain ⟨hb, hg, hgg⟩ := HB.out
  have hg := blk_below hg hd9
  have hb2 := reach_to' hb hb.size hd9
  have hgl : g < W2.heap.size := blk_lt hg
  have HB := Aside0.mk (And.intro hb2 (And.intro hg hgg))
  clear hb hg hgg hb2 hd9 hW2 HX HR
  have c0 := pw_cell_below (below_alloc (Below.refl W2.heap.size W2) (.cells #[.slice A2 n2 c2, .bool false] 94)) c0
  go_wp2_with fail
  obtain ⟨X, hX⟩ : ∃ X, X = W2.alloc (.cells #[.slice A2 n2 c2, .bool false] 94) := ⟨_, rfl⟩
  rw [← hX]
  have hbX : Below W2.heap.size W2 X := by rw [hX]; exact below_alloc (Below.refl _ _) _
  have hrX : X.heap[W2.heap.size]? = some (.cells #[.slice A2 n2 c2, .bool false] 94 (0, 0)) := by rw [hX]; exact heap_alloc_new _ _
  obtain ⟨r, hr⟩ : ∃ r, r = W2.heap.size := ⟨_, rfl⟩
  rw [← hr] at hrX hgl ⊢
  obtain ⟨hb2, hg, hgg⟩ := HB.out
  have hg := blk_below hg hbX
  have hb3 := reach_to' hb2 hb2.size hbX
  have hS : RS w X r (l.drop (4 : Int).toNat, false) := ⟨⟨A2, n2, c2, hrX, HM.out.2.2.1, HM.out.2.1⟩, hb3, by have := hb2.size; omega⟩
  clear hbX hrX hX hb2 HB
  refine (msg_at K ⟨x0, x1, x2, x3, x4, x5, x6, x7, lx⟩ o rest false HM.out.2.2.2.2.2.1 w X r (l.drop 4, false) HM.out.1 hS HM.out.2.2.2.2.2.2).mono ?_
  rintro e y1 ⟨v1, rfl, hR1, hS1, hF1⟩
  obtain ⟨A1, c1', rfl⟩ := Kd.R_slice hR1
  generalize hln : (Msg.l ⟨x0, x1, x2, x3, x4, x5, x6, x7, lx⟩).length = n1 at *
  clear hln
  have hgX : g < X.heap.size := blk_lt hg
  have hg := hF1.blk (show g ≠ r by omega) hg
  have hgy1 : g < y1.heap.size := blk_lt hg
  have hR1 := Kd.R_mono hR1 (ok' := fun k => k ≠ g) (fun k hk => by omega)
  obtain ⟨⟨A4, n4, c4, hr4, hle4, hC4⟩, hB4, hlt4⟩ := hS1
  simp only [Msg.cells]
  obtain ⟨Y, hY⟩ : ∃ Y, Y = y1.alloc (.cells #[.int .i64 x0, .int .u32 x1, .int .u32 x2, .int .u32 x3, .int .u32 x4, .int .i64 x5, .int .i64 x6, .bool x7, .slice A1 n1 c1'] 56) := ⟨_, rfl⟩
  have hbY : Below y1.heap.size y1 Y := by rw [hY]; exact below_alloc (Below.refl _ _) _
  have hq : Y.heap[y1.heap.size]? = some (.cells #[.int .i64 x0, .int .u32 x1, .int .u32 x2, .int .u32 x3, .int .u32 x4, .int .i64 x5, .int .i64 x6, .bool x7, .slice A1 n1 c1'] 56 (0, 0)) := by rw [hY]; exact heap_alloc_new _ _
  have hg := blk_below hg hbY
  have hr4 := blk_below hr4 hbY
  have hbw := reach_to' hB4 hB4.size hbY
  have hR1 := Kd.R_below hR1 hbY
  have hn4 : rest.length = n4 := hC4.1
  have f0 := (blk_cell hr4 0).trans rfl
  have f1 := (blk_cell hr4 1).trans rfl
  have hmx4 := Kd.C_max hC4
  have HX := Aside0.mk hY
  have hEY := HM.out.2.2.2.1.below hbw
  have hgw : w.heap.size ≤ g := by omega
  have HQ := Aside0.mk (And.intro hg (And.intro hbw (And.intro hR1 (And.intro hEY (And.intro hq (And.intro HM.out.2.2.2.2.1 hgw))))))
  clear hbY hr4 hR1 hC4 hB4 hS hF1 hY hb3 hgX
  have hgr : g < r := hgl
  clear hr hgg hgw
  have hrx : r < Y.heap.size := World.block_lt_of_cell? Y _ f0
  obtain rfl : n4 = 0 := by omega
  have hx2' : decide (1 < o) = false := decide_eq_false (by omega)
  clear hx
  have p0 := (blk_cell hg 0).trans rfl
  have p1 := (blk_cell hg 1).trans rfl
  have p2 := (blk_cell hg 2).trans rfl
  have p3 := (blk_cell hg 3).trans rfl
  have p4 := (blk_cell hg 4).trans rfl
  have p5 := (blk_cell hg 5).trans rfl
  have p6 := (blk_cell hg 6).trans rfl
  have p7 := (blk_cell hg 7).trans rfl
  have p8 := (blk_cell hg 8).trans rfl
  have q0 := (blk_cell hq 0).trans rfl
  have q1 := (blk_cell hq 1).trans rfl
  have q2 := (blk_cell hq 2).trans rfl
  have q3 := (blk_cell hq 3).trans rfl
  have q4 := (blk_cell hq 4).trans rfl
  have q5 := (blk_cell hq 5).trans rfl
  have q6 := (blk_cell hq 6).trans rfl
  have q7 := (blk_cell hq 7).trans rfl
  have q8 := (blk_cell hq 8).trans rfl
  have fg := blk_frozen hg
  have hgY : g < Y.heap.size := blk_lt hg
  obtain ⟨b5, hb5⟩ : ∃ b5, b5 = y1.heap.size := ⟨_, rfl⟩
  have HY := Aside0.mk hb5
  clear hg hq hbw hEY hb5
  go_wp2_with (rw [← HX.out])
  refine (valid_any E ⟨x0, x1, x2, x3, x4, x5, x6, x7, lx⟩ A1 n1 c1' Y (HQ.out.2.2.2.1.sub read_wire) HQ.out.2.2.2.2.2.1 (R_C HQ.out.2.2.1).2).mono ?_
  rintro e z1 ⟨rfl, hbz⟩
  rw [hv]
  simp only [errV]
  obtain ⟨hg, hbw, hR1, hEY, hq, _, hgw⟩ := HQ.out
  have hg := blk_below hg hbz
  have hq := blk_below hq hbz
  have hbw := reach_to' hbw hbw.size hbz
  have hR1 := Kd.R_below hR1 hbz
  obtain ⟨b5, hb5⟩ : ∃ b5, b5 = y1.heap.size := ⟨_, rfl⟩
  rw [← hb5] at hq ⊢
  have hbg5 : g < b5 := by omega
  clear p0 p1 p2 p3 p4 p5 p6 p7 p8 q0 q1 q2 q3 q4 q5 q6 q7 q8 fg hgY hbz hb5
  have p0 := (blk_cell hg 0).trans rfl
  have p1 := (blk_cell hg 1).trans rfl
  have p2 := (blk_cell hg 2).trans rfl
  have p3 := (blk_cell hg 3).trans rfl
  have p4 := (blk_cell hg 4).trans rfl
  have p5 := (blk_cell hg 5).trans rfl
  have p6 := (blk_cell hg 6).trans rfl
  have p7 := (blk_cell hg 7).trans rfl
  have p8 := (blk_cell hg 8).trans rfl
  have q0 := (blk_cell hq 0).trans rfl
  have q1 := (blk_cell hq 1).trans rfl
  have q2 := (blk_cell hq 2).trans rfl
  have q3 := (blk_cell hq 3).trans rfl
  have q4 := (blk_cell hq 4).trans rfl
  have q5 := (blk_cell hq 5).trans rfl
  have q6 := (blk_cell hq 6).trans rfl
  have q7 := (blk_cell hq 7).trans rfl
  have q8 := (blk_cell hq 8).trans rfl
  have fg := blk_frozen hg
  have hgY : g < z1.heap.size := blk_lt hg
  have HQ := Aside0.mk (And.intro hg (And.intro hbw (And.intro hR1 hgw)))
  clear hg hq hbw hEY hR1 hgw
  go_wp2
  obtain ⟨hg, hbw, hR1, hgw⟩ := HQ.out
  refine bodyPost_ret (results_cell_row2 rfl _ _ g 56 #[.int .i64 0, .int .u32 0, .int .u32 0, .int .u32 0, .int .u32 0, .int .i64 0, .int .i64 0, .bool false, .slice none 0 0] (0, 0) _ rfl (blk_put9 hg) hu rfl (by kernel_rfl)) rfl ?_
  exact ⟨rfl, (Below.setCell (Below.setCell (Below.setCell (Below.setCell (Below.setCell (Below.setCell (Below.setCell (Below.setCell (Below.setCell hbw hgw _) hgw _) hgw _) hgw _) hgw _) hgw _) hgw _) hgw _) hgw _)⟩
set_option maxHeartbeats 4000000 in
set_option maxRecDepth 100000 in
theorem readm_good (E : Nat → Addr) (A : Option Addr) (n c : Nat) (l : List Int) (w : World) (K : Int) (m : Msg) (o : Int) (rest : List Int) (hv : validL m = none) (hx : rest.length = 0) (hx2 : o ≤ 1) (hE : Errs readErrs E w) (hr : Kd.C (Kd.int .u8) w A n l) (hby : Byt l) (hle : n ≤ c) (hl : l.length ≤ 1000000) (h4 : 4 ≤ n) (hz : ofL l = 0) (h1 : l.getD 1 0 = 0) (h0 : l.getD 0 0 = K + 32) (hK : 1 ≤ K ∧ K ≤ 5) (hM : msgR K (l.drop 4, false) = (m, o, (rest, false))) :
    Calls Tryd.prog 34 #[.slice A n c] w fun e w' => ∃ A' n' c', e = .returned (.tuple #[.agg (m.cells (.slice A' n' c')), .nilIface]) ∧ Kd.C (Kd.int .u32) w' A' n' m.l ∧ Below w.heap.size w w' := by
  have hu := Tryd.underlying56
  have hu2 := Tryd.underlying94
  have hu3 := Tryd.underlying53
  have hb := below_alloc (Below.refl w.heap.size w) (.cells #[.int .i64 0, .int .u32 0, .int .u32 0, .int .u32 0, .int .u32 0, .int .i64 0, .int .i64 0, .bool false, .slice none 0 0] 56)
  have HR := Aside0.mk (And.intro (Kd.C_below hr hb) (And.intro hby hl))
  have hmx := Kd.C_max hr
  have hwf := msgR_wf K (l.drop 4, false) (byt_drop hby 4)
  have ho := msgR_only K (l.drop 4, false) (byt_drop hby 4)
  rw [hM] at hwf ho
  obtain ⟨o0, o1⟩ := ho
  simp only at o0 o1
  obtain ⟨x0, x1, x2, x3, x4, x5, x6, x7, lx⟩ := m
  obtain ⟨ad, b0, rfl, _, _⟩ := at_nat hr 0 (by omega)
  obtain ⟨A2, n2, c2, hle2, hd, hC2⟩ := drop_ex 26 5 .i64 Tryd.underlying26 Tryd.infoB hr hle 4 (by omega) (by omega)
  have c1 := cells_of hr 1 (by omega) (by omega)
  have c0 := cell0_of hr (by omega)
  rw [h1] at c1
  rw [h0] at c0
  obtain ⟨kk0, kk1⟩ := id hK
  have wk0 : IntKind.i64.wrap (K + 32) = K + 32 := IntWalk.i64_in _ (by omega)
  have hzt : decide (ofL l = 0) = true := decide_eq_true hz
  have HK := Aside0.mk (show decide (1 ≤ K ∧ K ≤ 5) = true from decide_eq_true hK)
  have HM := Aside0.mk (And.intro hM (And.intro hC2 (And.intro hle2 (And.intro hE (And.intro hwf (And.intro hK (byt_drop hby 4)))))))
  have hb0 := hb
  obtain ⟨W, hW⟩ : ∃ W, W = w.alloc (.cells #[.int .i64 0, .int .u32 0, .int .u32 0, .int .u32 0, .int .u32 0, .int .i64 0, .int .i64 0, .bool false, .slice none 0 0] 56) := ⟨_, rfl⟩
  have HX := Aside0.mk hW
  rw [← hW] at HR hb
  have hg : W.heap[w.heap.size]? = some (.cells #[.int .i64 0, .int .u32 0, .int .u32 0, .int .u32 0, .int .u32 0, .int .i64 0, .int .i64 0, .bool false, .slice none 0 0] 56 (0, 0)) := by rw [hW]; exact heap_alloc_new w _
  have c1 := pw_cell_below hb c1
  have c0 := pw_cell_below hb c0
  have HB := Aside0.mk (And.intro hb hg)
  clear hr hz hby hl h1 h0 hM hC2 hle2 hE hwf hK hb hb0 hW hg
  simp only [errV]
  go_enter Tryd.func34, Tryd.ntmps34
  go_wp2_with (rw [← HX.out])
  obtain ⟨hb, hg⟩ := HB.out
  obtain ⟨g, hgg⟩ : ∃ g, g = w.heap.size := ⟨_, rfl⟩
  rw [← hgg] at hg ⊢
  have HB := Aside0.mk (And.intro hb (And.intro hg hgg))
  clear hb hg hgg
  refine (check_any (some ad) n c l W HR.out.1 HR.out.2.1 HR.out.2.2).mono ?_
  rintro e w1 ⟨rfl, rfl⟩
  go_wp2_with fail
  refine (wkind_any K _).mono ?_
  rintro e w1 ⟨rfl, ⟨nq, rfl⟩⟩
  rw [HK.out]
  clear HK
  have hd9 : Below W.heap.size W (W.drewN nq) := pw_below_drewN (Below.refl _ _) _
  obtain ⟨W2, hW2⟩ : ∃ W2, W2 = W.drewN nq := ⟨_, rfl⟩
  rw [← hW2] at hd9 ⊢
  have c1 := pw_cell_below hd9 c1
  have c0 := pw_cell_below hd9 c0
  obtain ⟨hb, hg, hgg⟩ := HB.out
  have hg := blk_below hg hd9
  have hb2 := reach_to' hb hb.size hd9
  have hgl : g < W2.heap.size := blk_lt hg
  have HB := Aside0.mk (And.intro hb2 (And.intro hg hgg))
  clear hb hg hgg hb2 hd9 hW2 HX HR
  have c0 := pw_cell_below (below_alloc (Below.refl W2.heap.size W2) (.cells #[.slice A2 n2 c2, .bool false] 94)) c0
  go_wp2_with fail
  obtain ⟨X, hX⟩ : ∃ X, X = W2.alloc (.cells #[.slice A2 n2 c2, .bool false] 94) := ⟨_, rfl⟩
  rw [← hX]
  have hbX : Below W2.heap.size W2 X := by rw [hX]; exact below_alloc (Below.refl _ _) _
  have hrX : X.heap[W2.heap.size]? = some (.cells #[.slice A2 n2 c2, .bool false] 94 (0, 0)) := by rw [hX]; exact heap_alloc_new _ _
  obtain ⟨r, hr⟩ : ∃ r, r = W2.heap.size := ⟨_, rfl⟩
  rw [← hr] at hrX hgl ⊢
  obtain ⟨hb2, hg, hgg⟩ := HB.out
  have hg := blk_below hg hbX
  have hb3 := reach_to' hb2 hb2.size hbX
  have hS : RS w X r (l.drop (4 : Int).toNat, false) := ⟨⟨A2, n2, c2, hrX, HM.out.2.2.1, HM.out.2.1⟩, hb3, by have := hb2.size; omega⟩
  clear hbX hrX hX hb2 HB
  refine (msg_at K ⟨x0, x1, x2, x3, x4, x5, x6, x7, lx⟩ o rest false HM.out.2.2.2.2.2.1 w X r (l.drop 4, false) HM.out.1 hS HM.out.2.2.2.2.2.2).mono ?_
  rintro e y1 ⟨v1, rfl, hR1, hS1, hF1⟩
  obtain ⟨A1, c1', rfl⟩ := Kd.R_slice hR1
  generalize hln : (Msg.l ⟨x0, x1, x2, x3, x4, x5, x6, x7, lx⟩).length = n1 at *
  clear hln
  have hgX : g < X.heap.size := blk_lt hg
  have hg := hF1.blk (show g ≠ r by omega) hg
  have hgy1 : g < y1.heap.size := blk_lt hg
  have hR1 := Kd.R_mono hR1 (ok' := fun k => k ≠ g) (fun k hk => by omega)
  obtain ⟨⟨A4, n4, c4, hr4, hle4, hC4⟩, hB4, hlt4⟩ := hS1
  simp only [Msg.cells]
  obtain ⟨Y, hY⟩ : ∃ Y, Y = y1.alloc (.cells #[.int .i64 x0, .int .u32 x1, .int .u32 x2, .int .u32 x3, .int .u32 x4, .int .i64 x5, .int .i64 x6, .bool x7, .slice A1 n1 c1'] 56) := ⟨_, rfl⟩
  have hbY : Below y1.heap.size y1 Y := by rw [hY]; exact below_alloc (Below.refl _ _) _
  have hq : Y.heap[y1.heap.size]? = some (.cells #[.int .i64 x0, .int .u32 x1, .int .u32 x2, .int .u32 x3, .int .u32 x4, .int .i64 x5, .int .i64 x6, .bool x7, .slice A1 n1 c1'] 56 (0, 0)) := by rw [hY]; exact heap_alloc_new _ _
  have hg := blk_below hg hbY
  have hr4 := blk_below hr4 hbY
  have hbw := reach_to' hB4 hB4.size hbY
  have hR1 := Kd.R_below hR1 hbY
  have hn4 : rest.length = n4 := hC4.1
  have f0 := (blk_cell hr4 0).trans rfl
  have f1 := (blk_cell hr4 1).trans rfl
  have hmx4 := Kd.C_max hC4
  have HX := Aside0.mk hY
  have hEY := HM.out.2.2.2.1.below hbw
  have hgw : w.heap.size ≤ g := by omega
  have HQ := Aside0.mk (And.intro hg (And.intro hbw (And.intro hR1 (And.intro hEY (And.intro hq (And.intro HM.out.2.2.2.2.1 hgw))))))
  clear hbY hr4 hR1 hC4 hB4 hS hF1 hY hb3 hgX
  have hgr : g < r := hgl
  clear hr hgg hgw
  have hrx : r < Y.heap.size := World.block_lt_of_cell? Y _ f0
  obtain rfl : n4 = 0 := by omega
  have hx2' : decide (1 < o) = false := decide_eq_false (by omega)
  clear hx
  have p0 := (blk_cell hg 0).trans rfl
  have p1 := (blk_cell hg 1).trans rfl
  have p2 := (blk_cell hg 2).trans rfl
  have p3 := (blk_cell hg 3).trans rfl
  have p4 := (blk_cell hg 4).trans rfl
  have p5 := (blk_cell hg 5).trans rfl
  have p6 := (blk_cell hg 6).trans rfl
  have p7 := (blk_cell hg 7).trans rfl
  have p8 := (blk_cell hg 8).trans rfl
  have q0 := (blk_cell hq 0).trans rfl
  have q1 := (blk_cell hq 1).trans rfl
  have q2 := (blk_cell hq 2).trans rfl
  have q3 := (blk_cell hq 3).trans rfl
  have q4 := (blk_cell hq 4).trans rfl
  have q5 := (blk_cell hq 5).trans rfl
  have q6 := (blk_cell hq 6).trans rfl
  have q7 := (blk_cell hq 7).trans rfl
  have q8 := (blk_cell hq 8).trans rfl
  have fg := blk_frozen hg
  have hgY : g < Y.heap.size := blk_lt hg
  obtain ⟨b5, hb5⟩ : ∃ b5, b5 = y1.heap.size := ⟨_, rfl⟩
  have HY := Aside0.mk hb5
  clear hg hq hbw hEY hb5
  go_wp2_with (rw [← HX.out])
  refine (valid_any E ⟨x0, x1, x2, x3, x4, x5, x6, x7, lx⟩ A1 n1 c1' Y (HQ.out.2.2.2.1.sub read_wire) HQ.out.2.2.2.2.2.1 (R_C HQ.out.2.2.1).2).mono ?_
  rintro e z1 ⟨rfl, hbz⟩
  rw [hv]
  simp only [errV]
  obtain ⟨hg, hbw, hR1, hEY, hq, _, hgw⟩ := HQ.out
  have hg := blk_below hg hbz
  have hq := blk_below hq hbz
  have hbw := reach_to' hbw hbw.size hbz
  have hR1 := Kd.R_below hR1 hbz
  obtain ⟨b5, hb5⟩ : ∃ b5, b5 = y1.heap.size := ⟨_, rfl⟩
  rw [← hb5] at hq ⊢
  have hbg5 : g < b5 := by omega
  clear p0 p1 p2 p3 p4 p5 p6 p7 p8 q0 q1 q2 q3 q4 q5 q6 q7 q8 fg hgY hbz hb5
  have p0 := (blk_cell hg 0).trans rfl
  have p1 := (blk_cell hg 1).trans rfl
  have p2 := (blk_cell hg 2).trans rfl
  have p3 := (blk_cell hg 3).trans rfl
  have p4 := (blk_cell hg 4).trans rfl
  have p5 := (blk_cell hg 5).trans rfl
  have p6 := (blk_cell hg 6).trans rfl
  have p7 := (blk_cell hg 7).trans rfl
  have p8 := (blk_cell hg 8).trans rfl
  have q0 := (blk_cell hq 0).trans rfl
  have q1 := (blk_cell hq 1).trans rfl
  have q2 := (blk_cell hq 2).trans rfl
  have q3 := (blk_cell hq 3).trans rfl
  have q4 := (blk_cell hq 4).trans rfl
  have q5 := (blk_cell hq 5).trans rfl
  have q6 := (blk_cell hq 6).trans rfl
  have q7 := (blk_cell hq 7).trans rfl
  have q8 := (blk_cell hq 8).trans rfl
  have fg := blk_frozen hg
  have hgY : g < z1.heap.size := blk_lt hg
  have HQ := Aside0.mk (And.intro hg (And.intro hbw (And.intro hR1 hgw)))
  clear hg hq hbw hEY hR1 hgw
  go_wp2
  obtain ⟨hg, hbw, hR1, hgw⟩ := HQ.out
  refine bodyPost_ret (results_cell_row2 rfl _ _ g 56 #[.int .i64 x0, .int .u32 x1, .int .u32 x2, .int .u32 x3, .int .u32 x4, .int .i64 x5, .int .i64 x6, .bool x7, .slice A1 n1 c1'] (0, 0) _ rfl (blk_put9 hg) hu rfl (by kernel_rfl)) rfl ?_
  exact ⟨_, _, _, rfl, (R_C (Kd.R_far (Kd.R_far (Kd.R_far (Kd.R_far (Kd.R_far (Kd.R_far (Kd.R_far (Kd.R_far (Kd.R_far hR1 (p := ⟨g, 0, none⟩) (fun k hk => hk) _) (p := ⟨g, 1, none⟩) (fun k hk => hk) _) (p := ⟨g, 2, none⟩) (fun k hk => hk) _) (p := ⟨g, 3, none⟩) (fun k hk => hk) _) (p := ⟨g, 4, none⟩) (fun k hk => hk) _) (p := ⟨g, 5, none⟩) (fun k hk => hk) _) (p := ⟨g, 6, none⟩) (fun k hk => hk) _) (p := ⟨g, 7, none⟩) (fun k hk => hk) _) (p := ⟨g, 8, none⟩) (fun k hk => hk) _)).2, (Below.setCell (Below.setCell (Below.setCell (Below.setCell (Below.setCell (Below.setCell (Below.setCell (Below.setCell (Below.setCell hbw hgw _) hgw _) hgw _) hgw _) hgw _) hgw _) hgw _) hgw _) hgw _)⟩
end Go.Proofs.YtbgbplbkombfjaaDoor
