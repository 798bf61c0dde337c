/- Chapter 19: fwd.Do. -/
import Derived.Test.YtjcihhkeehjgdaaFwdFind
namespace Go.Proofs.Ytjcihhkeehjgdaa
open Go.RowKit Go.Proofs.YtjcihhkeehjgdaaW.PrintWords Ytjcihhkeehjgdaa.PFwdSays
set_option linter.unusedVariables false
set_option linter.unusedSimpArgs false
attribute [local go_sem high] eqA69 eqA82
theorem C_far {k : IntKind} {w : World} {A : Option Addr} {n : Nat} {xs : List Int} (h : (Kd.int k).C w A n xs) {p : Addr} (hp : ∀ ad, A = some ad → ad.block ≠ p.block) (u : Value) : (Kd.int k).C (w.setCell p u) A n xs := by
  obtain ⟨h1, h2, h3⟩ := h
  refine ⟨h1, h2, fun hn => ?_⟩
  obtain ⟨ad, he, hc⟩ := h3 hn
  refine ⟨ad, he, fun j q hj => ?_⟩
  obtain ⟨cs, hl, hK, hcell⟩ := hc j q hj
  refine ⟨cs, hl, hK, fun t v hv => ?_⟩
  rw [← hcell t v hv]
  exact World.cell?_of_block (Below.heap_setCell w p u _ (by have h := hp ad he; intro e; apply h; rw [← e]; (unfold Addr.add; split <;> rfl)))
theorem C_none (k : IntKind) (w : World) : (Kd.int k).C w none 0 [] := ⟨rfl, by simp, fun h => absurd h (by simp)⟩
theorem blk_put4 {w : World} {g t : Nat} {x0 x1 x2 x3 a0 a1 a2 a3 : Value} (h : w.heap[g]? = some (.cells #[x0, x1, x2, x3] t (0, 0))) :
    ((((w.setCell ⟨g, 0, none⟩ a0).setCell ⟨g, 1, none⟩ a1).setCell ⟨g, 2, none⟩ a2).setCell ⟨g, 3, none⟩ a3).heap[g]? = some (.cells #[a0, a1, a2, a3] t (0, 0)) :=
  blk_put (blk_put (blk_put (blk_put h 0 a0 rfl) 1 a1 rfl) 2 a2 rfl) 3 a3 rfl
structure SDeed where
  kind : Int
  s : Int
  g : Int
  out : List Int
/-- What is done with a packet. -/
def deed (l : List S78) (x : List S82) (router s g port : Int) : SDeed :=
  match usedOf l router s g with
  | none => ⟨0, 0, 0, []⟩
  | some k => if (l.getD k z78).f1 = port then ⟨2, (l.getD k z78).f3.f0, (l.getD k z78).f3.f1, (l.getD k z78).f4.filter (fun q => !leftOut x port s g q)⟩ else ⟨1, (l.getD k z78).f3.f0, (l.getD k z78).f3.f1, []⟩
set_option maxHeartbeats 4000000 in
set_option maxRecDepth 100000 in
theorem do_any (A Ax : Option Addr) (n c nx cx : Nat) (l : List S78) (x : List S82) (router s g port : Int) (w : World) (hr : Kd.C k78 w A n l) (hx : Kd.C k82 w Ax nx x) (hl : ∀ x ∈ l, x.f4.length ≤ 1000000) :
    Calls Try.prog 37 #[.int .i64 router, .slice A n c, .slice Ax nx cx, .agg #[.int .u32 s, .int .u32 g, .int .i64 port]] w fun e w' => ∃ Ao no co, e = .returned (.agg #[.int .i64 (deed l x router s g port).kind, .int .u32 (deed l x router s g port).s, .int .u32 (deed l x router s g port).g, .slice Ao no co]) ∧ no ≤ co ∧ (Kd.int .i64).C w' Ao no (deed l x router s g port).out ∧ Below w.heap.size w w' := by
  have hu78 := Try.underlying78
  have hu69 := Try.underlying69
  have hu71 := Try.underlying71
  have hu75 := Try.underlying75
  have HC := Aside0.mk hr
  have HX := Aside0.mk hx
  have HL := Aside0.mk hl
  clear hr hx hl
  obtain ⟨O1, hO1⟩ : ∃ O1, O1 = Obj.cells #[.slice Ax nx cx] 67 (0, 0) := ⟨_, rfl⟩
  obtain ⟨O2, hO2⟩ : ∃ O2, O2 = Obj.cells #[.int .u32 s, .int .u32 g, .int .i64 port] 71 (0, 0) := ⟨_, rfl⟩
  obtain ⟨O3, hO3⟩ : ∃ O3, O3 = Obj.cells #[.int .i64 0, .int .u32 0, .int .u32 0, .slice none 0 0] 75 (0, 0) := ⟨_, rfl⟩
  have hb0 : Below w.heap.size w (((w.alloc O1).alloc O2).alloc O3) := (((Below.refl _ _).alloc (Nat.le_refl _) _).alloc (by simp) _).alloc (by simp; omega) _
  have h1 : (((w.alloc O1).alloc O2).alloc O3).heap[w.heap.size]? = some O1 := blk_alloc (blk_alloc (heap_alloc_new w O1) O2) O3
  have h2 : (((w.alloc O1).alloc O2).alloc O3).heap[w.heap.size + 1]? = some O2 := by
    have := blk_alloc (heap_alloc_new (w.alloc O1) O2) O3
    rwa [show (w.alloc O1).heap.size = w.heap.size + 1 by simp] at this
  have h3 : (((w.alloc O1).alloc O2).alloc O3).heap[w.heap.size + 1 + 1]? = some O3 := by
    have := heap_alloc_new ((w.alloc O1).alloc O2) O3
    rwa [show ((w.alloc O1).alloc O2).heap.size = w.heap.size + 1 + 1 by simp] at this
  have hsz : (((w.alloc O1).alloc O2).alloc O3).heap.size = w.heap.size + 3 := by simp
  have HS := Aside0.mk (And.intro hb0 (And.intro h1 (And.intro h2 (And.intro h3 hsz))))
  clear hb0 h1 h2 h3 hsz
  have HO := Aside0.mk (And.intro hO1 (And.intro hO2 hO3))
  clear hO1 hO2 hO3
  go_enter Try.func37, Try.ntmps37
  go_wp2_with fail
  obtain ⟨hO1, hO2, hO3⟩ := HO.out
  rw [← hO1, ← hO2, ← hO3]
  obtain ⟨hb0, h1, h2, h3, hsz⟩ := HS.out
  replace h1 := h1.trans (congrArg some hO1)
  replace h2 := h2.trans (congrArg some hO2)
  replace h3 := h3.trans (congrArg some hO3)
  clear HS HO hO1 hO2 hO3
  generalize ((w.alloc O1).alloc O2).alloc O3 = W at *
  have HC1 := Kd.C_below HC.out hb0
  have HX1 := Aside0.mk (Kd.C_below HX.out hb0)
  have HB0 := Aside0.mk hb0
  clear HC HX O1 O2 O3
  obtain ⟨b, hbw⟩ : ∃ b, b = w.heap.size := ⟨_, rfl⟩
  rw [← hbw] at h1 h2 h3 hsz ⊢
  have HW := Aside0.mk hbw
  clear hbw hb0
  refine (row_any A n c l router s g W HC1 HL.out).mono ?_
  rintro e w1 ⟨v, rfl, hown, hb1⟩
  have HP := Aside0.mk (And.intro h1 (And.intro h2 h3))
  have hs1 := hb1.size
  have g2 := blk_below h2 hb1
  have g3 := blk_below h3 hb1
  have HG3 := Aside0.mk g3
  obtain ⟨A1, c1, rfl⟩ := Kd.R_slice hown
  have HB1 := Aside0.mk hb1
  have HO1 := Aside0.mk hown
  have p2 := (blk_cell g2 2).trans rfl
  have q0 := (blk_cell g3 0).trans rfl
  have q1 := (blk_cell g3 1).trans rfl
  have q2 := (blk_cell g3 2).trans rfl
  have q3 := (blk_cell g3 3).trans rfl
  have f0 := blk_frozen g3
  have hlt1 : b + 1 < w1.heap.size := by omega
  have hlt2 : b + 1 + 1 < w1.heap.size := by omega
  clear hown hb1 h1 h2 h3 g2 g3 HC1
  have hw0 := HW.out
  have HB := Aside0.mk (below_then HB0.out (by omega) HB1.out)
  clear hw0
  cases hu : usedOf l router s g with
  | none =>
    have HD : Aside0 (deed l x router s g port = ⟨0, 0, 0, []⟩) := ⟨by unfold deed; rw [hu]⟩
    simp only [cells78, rowAt, Option.isSome_none]
    clear hu p2
    go_wp2
    refine bodyPost_ret (results_cell_row rfl _ _ (b + 1 + 1) 75 #[.int .i64 0, .int .u32 0, .int .u32 0, .slice none 0 0] (0, 0) _ rfl (blk_alloc (blk_put4 HG3.out) _) hu75 rfl (by kernel_rfl)) rfl ?_
    rw [HD.out]
    have hw := HW.out
    have hge : w.heap.size ≤ b + 1 + 1 := by omega
    have hB4 := (((HB.out.setCell (p := ⟨b + 1 + 1, 0, none⟩) hge (.int .i64 0)).setCell (p := ⟨b + 1 + 1, 1, none⟩) hge (.int .u32 0)).setCell (p := ⟨b + 1 + 1, 2, none⟩) hge (.int .u32 0)).setCell (p := ⟨b + 1 + 1, 3, none⟩) hge (.slice none 0 0)
    exact ⟨none, 0, 0, rfl, Nat.le_refl _, C_none _ _, hB4.alloc (Nat.le_trans HB.out.size (by simp)) _⟩
  | some k =>
    rw [hu] at HO1
    simp only [rowAt] at HO1
    obtain ⟨y, hy⟩ : ∃ y, y = l.getD k z78 := ⟨_, rfl⟩
    rw [← hy] at HO1
    have HY := Aside0.mk hy
    simp only [cells78, rowAt, Option.isSome_some]
    rw [← hy]
    clear hy
    have HU := Aside0.mk hu
    clear hu
    obtain ⟨y0, y1, y2, ⟨y3, y4⟩, y5⟩ := y
    simp only at HO1 ⊢
    by_cases e : y1 = port
    · have e1 : (y1 == port) = true := beq_iff_eq.2 e
      have e2 : (y1 != port) = false := bne_eq_false_iff_eq.2 e
      have HD : Aside0 (deed l x router s g port = ⟨2, y3, y4, y5.filter (fun q => !leftOut x port s g q)⟩) := ⟨by unfold deed; rw [HU.out]; simp only; rw [← HY.out]; rw [if_pos e]⟩
      have HE := Aside0.mk e
      clear e
      go_wp2_with fail
      obtain ⟨O, hO⟩ : ∃ O, O = Obj.cells #[.int .i64 y0, .int .i64 y1, .int .i64 y2, .int .u32 y3, .int .u32 y4, .slice A1 y5.length c1] 78 (0, 0) := ⟨_, rfl⟩
      rw [← hO]
      have hnew := (heap_alloc_new w1 O).trans (congrArg some hO)
      have hbA := HB1.out.alloc hs1 O
      have hRA := Kd.R_alloc HO1.out O
      obtain ⟨t1, t2, t3⟩ := HP.out
      refine (deleteCut_any Ax nx cx _ _ y5 x port s g (b + 1) b W _ HX1.out ((blk_cell t2 0).trans rfl) ((blk_cell t2 1).trans rfl) ((blk_cell t2 2).trans rfl) ((blk_cell t1 0).trans rfl) hbA hRA).mono ?_
      rintro e w4 ⟨A4, n4, c4, rfl, hle4, hC4, hb4, hg4, ha4⟩
      have hn4 := blk_grown hnew hg4 (fun he => by have := Kd.R_lt HO1.out _ he.symm; omega)
      have ho4 := blk_below t3 hb4
      have HB4 := Aside0.mk (below_then HB0.out (by have := HW.out; omega) hb4)
      have HC4 := Aside0.mk hC4
      have HA4 := Aside0.mk ha4
      have HO4 := Aside0.mk ho4
      have m3 := (blk_cell hn4 3).trans rfl
      have m4 := (blk_cell hn4 4).trans rfl
      clear q0 q1 q2 q3 f0 p2
      have q0 := (blk_cell ho4 0).trans rfl
      have q1 := (blk_cell ho4 1).trans rfl
      have q2 := (blk_cell ho4 2).trans rfl
      have q3 := (blk_cell ho4 3).trans rfl
      have f0 := blk_frozen ho4
      clear hn4 ho4 hb4 hC4 ha4 hg4 hnew hbA hRA t1 t2 t3 hO
      go_wp2
      refine bodyPost_ret (results_cell_row rfl _ _ (b + 1 + 1) 75 #[.int .i64 2, .int .u32 y3, .int .u32 y4, .slice A4 n4 c4] (0, 0) _ rfl (blk_put4 HO4.out) hu75 rfl (by kernel_rfl)) rfl ?_
      rw [HD.out]
      have hw := HW.out
      have hge : w.heap.size ≤ b + 1 + 1 := by omega
      have hB4 := (((HB4.out.setCell (p := ⟨b + 1 + 1, 0, none⟩) hge (.int .i64 2)).setCell (p := ⟨b + 1 + 1, 1, none⟩) hge (.int .u32 y3)).setCell (p := ⟨b + 1 + 1, 2, none⟩) hge (.int .u32 y4)).setCell (p := ⟨b + 1 + 1, 3, none⟩) hge (.slice A4 n4 c4)
      have hne : ∀ (j : Nat) ad, A4 = some ad → ad.block ≠ (⟨b + 1 + 1, j, none⟩ : Addr).block := fun j ad e => by
        have := HA4.out ad e
        show ad.block ≠ b + 1 + 1
        omega
      exact ⟨A4, n4, c4, rfl, hle4, C_far (C_far (C_far (C_far HC4.out (hne 0) _) (hne 1) _) (hne 2) _) (hne 3) _, hB4⟩
    · have e1 : (y1 == port) = false := beq_eq_false_iff_ne.2 e
      have e2 : (y1 != port) = true := bne_iff_ne.2 e
      have HD : Aside0 (deed l x router s g port = ⟨1, y3, y4, []⟩) := ⟨by unfold deed; rw [HU.out]; simp only; rw [← HY.out]; rw [if_neg e]⟩
      go_wp2
      refine bodyPost_ret (results_cell_row rfl _ _ (b + 1 + 1) 75 #[.int .i64 1, .int .u32 y3, .int .u32 y4, .slice none 0 0] (0, 0) _ rfl (blk_alloc (blk_put4 HG3.out) _) hu75 rfl (by kernel_rfl)) rfl ?_
      rw [HD.out]
      have hw := HW.out
      have hge : w.heap.size ≤ b + 1 + 1 := by omega
      have hB4 := (((HB.out.setCell (p := ⟨b + 1 + 1, 0, none⟩) hge (.int .i64 1)).setCell (p := ⟨b + 1 + 1, 1, none⟩) hge (.int .u32 y3)).setCell (p := ⟨b + 1 + 1, 2, none⟩) hge (.int .u32 y4)).setCell (p := ⟨b + 1 + 1, 3, none⟩) hge (.slice none 0 0)
      exact ⟨none, 0, 0, rfl, Nat.le_refl _, C_none _ _, hB4.alloc (Nat.le_trans HB.out.size (by simp)) _⟩
end Go.Proofs.Ytjcihhkeehjgdaa
