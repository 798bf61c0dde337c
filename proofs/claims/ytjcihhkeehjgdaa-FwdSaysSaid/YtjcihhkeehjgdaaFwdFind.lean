/- Chapter 19: want.Find, fwd.Row. -/
import Derived.Test.YtjcihhkeehjgdaaFwdCut
namespace Go.Proofs.Ytjcihhkeehjgdaa
open Go.RowKit Go.Proofs.YtjcihhkeehjgdaaW.PrintWords Ytjcihhkeehjgdaa.PFwdSays
set_option linter.unusedVariables false
set_option linter.unusedSimpArgs false
attribute [local go_sem high] eqA69 eqA82
/-- The place of the first of which it holds. -/
def firstOf {α : Type} (p : α → Bool) : List α → Option Nat
  | [] => none
  | a :: r => if p a = true then some 0 else (firstOf p r).map (· + 1)
theorem firstOf_none {α : Type} (z : α) {p : α → Bool} : ∀ {l : List α}, (∀ t, t < l.length → p (l.getD t z) = false) → firstOf p l = none
  | [], _ => rfl
  | a :: r, h => by
    have h0 : p a = false := h 0 (by simp)
    have h1 := firstOf_none z (l := r) (fun t ht => h (t + 1) (by simp; omega))
    simp [firstOf, h0, h1]
theorem firstOf_some {α : Type} (z : α) {p : α → Bool} : ∀ {l : List α} {k : Nat}, k < l.length → p (l.getD k z) = true → (∀ t, t < k → p (l.getD t z) = false) → firstOf p l = some k
  | [], k, hk, _, _ => absurd hk (Nat.not_lt_zero _)
  | a :: r, 0, hk, ht, _ => by
    have h0 : p a = true := ht
    simp [firstOf, h0]
  | a :: r, k + 1, hk, ht, h => by
    have h0 : p a = false := h 0 (by omega)
    have h1 := firstOf_some z (l := r) (k := k) (by simpa using hk) ht (fun t ht => h (t + 1) (by omega))
    simp [firstOf, h0, h1]
theorem firstOf_lt {α : Type} {p : α → Bool} : ∀ {l : List α} {k : Nat}, firstOf p l = some k → k < l.length
  | [], k, h => by cases h
  | a :: r, k, h => by
    unfold firstOf at h
    split at h
    · cases h; simp
    · cases hr : firstOf p r with
      | none => rw [hr] at h; cases h
      | some m =>
        rw [hr] at h
        cases h
        have := firstOf_lt hr
        simp; omega
theorem firstOf_holds {α : Type} (z : α) {p : α → Bool} : ∀ {l : List α} {k : Nat}, firstOf p l = some k → p (l.getD k z) = true
  | [], k, h => by cases h
  | a :: r, k, h => by
    unfold firstOf at h
    split at h
    · next h0 => cases h; exact h0
    · cases hr : firstOf p r with
      | none => rw [hr] at h; cases h
      | some m =>
        rw [hr] at h
        cases h
        exact firstOf_holds z (l := r) hr
def rowIs (router s g : Int) (y : S78) : Bool := y.f0 == router && (y.f3.f0 == s && y.f3.f1 == g)
def rowAt (l : List S78) : Option Nat → S78
  | some k => l.getD k z78
  | none => z78
def cells78 (x : S78) (v : Value) : Array Value := #[.int .i64 x.f0, .int .i64 x.f1, .int .i64 x.f2, .int .u32 x.f3.f0, .int .u32 x.f3.f1, v]
theorem row78_at {w : World} {A : Option Addr} {n : Nat} {xs : List S78} (h : Kd.C k78 w A n xs) (j : Nat) (hj : j < n) : ∃ ad A5 c5 x, A = some ad ∧ w.cell? (ad.add (j * 6)) = some (.int .i64 x.f0) ∧ w.cell? ⟨(ad.add (j * 6)).block, (ad.add (j * 6)).off + 1, none⟩ = some (.int .i64 x.f1) ∧ w.cell? ⟨(ad.add (j * 6)).block, (ad.add (j * 6)).off + 2, none⟩ = some (.int .i64 x.f2) ∧ w.cell? ⟨(ad.add (j * 6)).block, (ad.add (j * 6)).off + 3, none⟩ = some (.int .u32 x.f3.f0) ∧ w.cell? ⟨(ad.add (j * 6)).block, (ad.add (j * 6)).off + 4, none⟩ = some (.int .u32 x.f3.f1) ∧ w.cell? ⟨(ad.add (j * 6)).block, (ad.add (j * 6)).off + 5, none⟩ = some (.slice A5 x.f4.length c5) ∧ Aside0 (x.f4.length ≤ c5 ∧ (Kd.int .i64).C w A5 x.f4.length x.f4) ∧ Aside0 (x = xs.getD j z78) := by
  obtain ⟨ad, A5, c5, e, h0, h1, h2, h3, h4, h5, hl, hC⟩ := at_T78 h (j : Int) (by omega) (by omega)
  rw [Int.toNat_natCast] at h0 h1 h2 h3 h4 h5
  exact ⟨ad, A5, c5, _, e, h0, h1, h2, h3, h4, h5, ⟨hl, hC⟩, ⟨by simp [rd_T78]⟩⟩
theorem blk_put6 {w : World} {g t : Nat} {x0 x1 x2 x3 x4 x5 a0 a1 a2 a3 a4 a5 : Value} (h : w.heap[g]? = some (.cells #[x0, x1, x2, x3, x4, x5] t (0, 0))) :
    ((((((w.setCell ⟨g, 0, none⟩ a0).setCell ⟨g, 1, none⟩ a1).setCell ⟨g, 2, none⟩ a2).setCell ⟨g, 3, none⟩ a3).setCell ⟨g, 4, none⟩ a4).setCell ⟨g, 5, none⟩ a5).heap[g]? = some (.cells #[a0, a1, a2, a3, a4, a5] t (0, 0)) :=
  blk_put (blk_put (blk_put (blk_put (blk_put (blk_put h 0 a0 rfl) 1 a1 rfl) 2 a2 rfl) 3 a3 rfl) 4 a4 rfl) 5 a5 rfl
/-- Blocks of one's own that lie above base are not turned by stores below it. -/
theorem R_high {α : Type} {d : Kd α} {e base : Nat} {ok : Nat → Prop} {w w1 : World} {v : Value} {xs : List α} (h : d.R e w base ok v xs) (hm : ∀ k, base ≤ k → w1.heap[k]? = w.heap[k]?) : d.R e w1 base ok v xs :=
  Kd.R_mono (Kd.R_move (Kd.R_bound h) (fun k hk => hm k hk.2.1)) (fun _ hk => hk.1)
set_option maxHeartbeats 4000000 in
set_option maxRecDepth 100000 in
theorem find_any (A : Option Addr) (n c : Nat) (l : List S78) (router s g : Int) (w : World) (hr : Kd.C k78 w A n l) (hl : ∀ x ∈ l, x.f4.length ≤ 1000000) :
    Calls Try.prog 56 #[.slice A n c, .int .i64 router, .agg #[.int .u32 s, .int .u32 g]] w fun e w' => ∃ v, e = .returned (.tuple #[.agg (cells78 (rowAt l (firstOf (rowIs router s g) l)) v), .bool (firstOf (rowIs router s g) l).isSome]) ∧ (Kd.int .i64).R 3 w' w.heap.size (fun _ => True) v (rowAt l (firstOf (rowIs router s g) l)).f4 ∧ Below w.heap.size w w' := by
  have hu78 := Try.underlying78
  have hu69 := Try.underlying69
  have HN := Aside0.mk hr.1
  have hmx : n ≤ 9223372036854775807 := by have := hr.2.1; omega
  have HC := Aside0.mk hr
  clear hr
  go_enter Try.func56, Try.ntmps56
  go_wp2_with fail
  have hb0 : Below w.heap.size w ((w.alloc (.cells #[.int .u32 s, .int .u32 g] 69 (0, 0))).alloc (.cells #[.int .i64 0, .int .i64 0, .int .i64 0, .int .u32 0, .int .u32 0, .slice none 0 0] 78 (0, 0))) := ((Below.refl _ _).alloc (Nat.le_refl _) _).alloc (by simp) _
  have hk : ((w.alloc (.cells #[.int .u32 s, .int .u32 g] 69 (0, 0))).alloc (.cells #[.int .i64 0, .int .i64 0, .int .i64 0, .int .u32 0, .int .u32 0, .slice none 0 0] 78 (0, 0))).heap[w.heap.size]? = some (.cells #[.int .u32 s, .int .u32 g] 69 (0, 0)) := by rw [Below.heap_alloc _ _ _ (by simp)]; exact heap_alloc_new w _
  have hr6 : ((w.alloc (.cells #[.int .u32 s, .int .u32 g] 69 (0, 0))).alloc (.cells #[.int .i64 0, .int .i64 0, .int .i64 0, .int .u32 0, .int .u32 0, .slice none 0 0] 78 (0, 0))).heap[w.heap.size + 1]? = some (.cells #[.int .i64 0, .int .i64 0, .int .i64 0, .int .u32 0, .int .u32 0, .slice none 0 0] 78 (0, 0)) := by have := heap_alloc_new (w.alloc (.cells #[.int .u32 s, .int .u32 g] 69 (0, 0))) (.cells #[.int .i64 0, .int .i64 0, .int .i64 0, .int .u32 0, .int .u32 0, .slice none 0 0] 78 (0, 0)); simpa using this
  have hsz : ((w.alloc (.cells #[.int .u32 s, .int .u32 g] 69 (0, 0))).alloc (.cells #[.int .i64 0, .int .i64 0, .int .i64 0, .int .u32 0, .int .u32 0, .slice none 0 0] 78 (0, 0))).heap.size = w.heap.size + 2 := by simp
  generalize (w.alloc (.cells #[.int .u32 s, .int .u32 g] 69 (0, 0))).alloc (.cells #[.int .i64 0, .int .i64 0, .int .i64 0, .int .u32 0, .int .u32 0, .slice none 0 0] 78 (0, 0)) = W at *
  have HC1 := Aside0.mk (Kd.C_below HC.out hb0)
  have HB0 := Aside0.mk hb0
  obtain ⟨b, hbw⟩ : ∃ b, b = w.heap.size := ⟨_, rfl⟩
  rw [← hbw] at hk hr6 hsz ⊢
  have HW := Aside0.mk hbw
  clear hbw hb0 HC
  have k0 : W.cell? ⟨b, 0, none⟩ = some (.int .u32 s) := (blk_cell hk 0).trans rfl
  have k1 : W.cell? ⟨b, 1, none⟩ = some (.int .u32 g) := (blk_cell hk 1).trans rfl
  clear hk
  have HR6 := Aside0.mk hr6
  clear hr6
  go_loopg [12] n (fun k i w' => ∃ j : Nat, j + k = n ∧ i = .int .i64 j ∧ Aside0 (∀ t, t < j → rowIs router s g (l.getD t z78) = false) ∧ Below W.heap.size W w')
  case atStart => exact ⟨0, by omega, rfl, ⟨fun t ht => absurd ht (Nat.not_lt_zero _)⟩, Below.refl _ _⟩
  case round =>
    obtain ⟨j, hj, rfl, HF, hbel⟩ := hrel
    by_cases hlt : j < n
    · obtain ⟨ad, A5, c5, y, rfl, h0, h1, h2, h3, h4, h5, HCy, HY⟩ := row78_at (Kd.C_below HC1.out hbel) j hlt
      have p0 := pw_cell_below hbel k0
      have p1 := pw_cell_below hbel k1
      have hs := hbel.size
      have hbl : b < wr.heap.size := by omega
      have hbl1 : b + 1 < wr.heap.size := by omega
      have hbk := blk_below HR6.out hbel
      have q0 := (blk_cell hbk 0).trans rfl
      have q1 := (blk_cell hbk 1).trans rfl
      have q2 := (blk_cell hbk 2).trans rfl
      have q3 := (blk_cell hbk 3).trans rfl
      have q4 := (blk_cell hbk 4).trans rfl
      have q5 := (blk_cell hbk 5).trans rfl
      have f0 := blk_frozen hbk
      have HBK := Aside0.mk hbk
      clear hbk
      obtain ⟨y0, y1, y2, ⟨y3, y4⟩, y5⟩ := y
      simp only at h0 h1 h2 h3 h4 h5 HCy
      by_cases e0 : y0 = router
      · have hok : rowIs router s g ⟨y0, y1, y2, ⟨y3, y4⟩, y5⟩ = (y3 == s && y4 == g) := by unfold rowIs; simp [e0]
        subst y0
        cases hk : (y3 == s && y4 == g) with
        | false =>
          rw [hk] at hok
          have HT := Aside0.mk hok
          clear hok
          go_wp2
          go_roundg (gk - 1)
          case measure => omega
          case rel =>
            refine ⟨j + 1, by omega, by go_num, ⟨fun t ht => ?_⟩, hbel.alloc hs _⟩
            by_cases e : t = j
            · rw [e, ← HY.out]; exact HT.out
            · exact HF.out t (by omega)
        | true =>
          rw [hk] at hok
          have hfo := firstOf_some z78 (l := l) (k := j) (p := rowIs router s g) (by rw [HN.out]; exact hlt) (by rw [← HY.out]; exact hok) HF.out
          have HFO := Aside0.mk hfo
          have hmem : (⟨router, y1, y2, ⟨y3, y4⟩, y5⟩ : S78) ∈ l := by
            rw [HY.out, List.getD_eq_getElem?_getD, List.getElem?_eq_getElem (by rw [HN.out]; exact hlt)]
            exact List.getElem_mem _
          have hyl : y5.length ≤ 1000000 := hl _ hmem
          clear hmem hfo hok
          have hbW := Below.alloc (Below.refl wr.heap.size wr) (Nat.le_refl _) (.cells #[.int .i64 router, .int .i64 y1, .int .i64 y2, .int .u32 y3, .int .u32 y4, .slice A5 y5.length c5] 78 (0, 0))
          have hCL := Kd.C_below HCy.out.2 hbW
          have hnew := heap_alloc_new wr (.cells #[.int .i64 router, .int .i64 y1, .int .i64 y2, .int .u32 y3, .int .u32 y4, .slice A5 y5.length c5] 78 (0, 0))
          have hold := blk_below HBK.out hbW
          have hbel2 := hbel.alloc hs (.cells #[.int .i64 router, .int .i64 y1, .int .i64 y2, .int .u32 y3, .int .u32 y4, .slice A5 y5.length c5] 78 (0, 0))
          have hsz2 : (wr.alloc (.cells #[.int .i64 router, .int .i64 y1, .int .i64 y2, .int .u32 y3, .int .u32 y4, .slice A5 y5.length c5] 78 (0, 0))).heap.size = wr.heap.size + 1 := by simp
          have HS := Aside0.mk (And.intro hCL (And.intro hnew (And.intro hold (And.intro hbel2 (And.intro hyl hsz2)))))
          clear hbW hCL hnew hold hbel2 hyl hsz2 q0 q1 q2 q3 q4 q5 f0
          go_wp2_with fail
          obtain ⟨hCL, hnew, hold, hbel2, hyl, hsz2⟩ := HS.out
          refine (cloneInts_any A5 _ c5 y5 _ hCL hyl).mono ?_
          rintro e w2 ⟨v, rfl, hown, hb2⟩
          obtain ⟨A', c', rfl⟩ := Kd.R_slice hown
          have n2 := blk_below hnew hb2
          have o2 := blk_below hold hb2
          have m0 := (blk_cell n2 0).trans rfl
          have m1 := (blk_cell n2 1).trans rfl
          have m2 := (blk_cell n2 2).trans rfl
          have m3 := (blk_cell n2 3).trans rfl
          have m4 := (blk_cell n2 4).trans rfl
          have m5 := (blk_cell n2 5).trans rfl
          have mf := blk_frozen n2
          have q0 := (blk_cell o2 0).trans rfl
          have q1 := (blk_cell o2 1).trans rfl
          have q2 := (blk_cell o2 2).trans rfl
          have q3 := (blk_cell o2 3).trans rfl
          have q4 := (blk_cell o2 4).trans rfl
          have q5 := (blk_cell o2 5).trans rfl
          have f0 := blk_frozen o2
          have HO2 := Aside0.mk o2
          have HOW := Aside0.mk hown
          have HB2 := Aside0.mk (below_then hbel2 (by omega) hb2)
          have hge : wr.heap.size ≠ b + 1 := by omega
          have hge' : b + 1 ≠ wr.heap.size := by omega
          clear n2 o2 hown hb2 hCL hnew hold hbel2 h0 h1 h2 h3 h4 h5 hyl
          rw [hsz2] at HOW
          clear hsz2 HS
          generalize wr.heap.size = z at *
          go_wp2
          refine bodyPost_ret (results_list (rs := [.cell 6 78, .tmp 7]) rfl (by simp) (.cell (b + 1) 78 #[.int .i64 router, .int .i64 y1, .int .i64 y2, .int .u32 y3, .int .u32 y4, .slice A' y5.length c'] (0, 0) _ rfl (blk_put6 (blk_far HO2.out hge' _)) hu78 rfl (by kernel_rfl) (.tmp .nil))) rfl ?_
          have hw := HW.out
          have hB := below_then HB0.out (by omega) HB2.out
          rw [HFO.out]
          simp only [rowAt, Option.isSome_some]
          rw [← HY.out]
          refine ⟨.slice A' y5.length c', rfl, ?_, ?_⟩
          · refine Kd.R_lower (R_high HOW.out (fun k hk => ?_)) (by omega)
            rw [Below.heap_setCell _ _ _ _ (by show k ≠ b + 1; omega), Below.heap_setCell _ _ _ _ (by show k ≠ b + 1; omega), Below.heap_setCell _ _ _ _ (by show k ≠ b + 1; omega), Below.heap_setCell _ _ _ _ (by show k ≠ b + 1; omega), Below.heap_setCell _ _ _ _ (by show k ≠ b + 1; omega), Below.heap_setCell _ _ _ _ (by show k ≠ b + 1; omega), Below.heap_setCell _ _ _ _ (by show k ≠ z; omega)]
          · have h1 : w.heap.size ≤ b + 1 := by omega
            have h2 : w.heap.size ≤ z := by omega
            exact ((((((hB.setCell h2 _).setCell h1 _).setCell h1 _).setCell h1 _).setCell h1 _).setCell h1 _).setCell h1 _
      · have hn : rowIs router s g ⟨y0, y1, y2, ⟨y3, y4⟩, y5⟩ = false := by unfold rowIs; simp [e0]
        have e1 : (y0 == router) = false := beq_eq_false_iff_ne.2 e0
        have HT := Aside0.mk hn
        clear hn
        go_wp2
        go_roundg (gk - 1)
        case measure => omega
        case rel =>
          refine ⟨j + 1, by omega, by go_num, ⟨fun t ht => ?_⟩, hbel.alloc hs _⟩
          by_cases e : t = j
          · rw [e, ← HY.out]; exact HT.out
          · exact HF.out t (by omega)
    · obtain rfl : j = n := by omega
      have hfo := firstOf_none z78 (l := l) (p := rowIs router s g) (fun t ht => HF.out t (by rw [HN.out] at ht; exact ht))
      have HFO := Aside0.mk hfo
      clear hfo
      have hbk := blk_below HR6.out hbel
      have q0 := (blk_cell hbk 0).trans rfl
      have q1 := (blk_cell hbk 1).trans rfl
      have q2 := (blk_cell hbk 2).trans rfl
      have q3 := (blk_cell hbk 3).trans rfl
      have q4 := (blk_cell hbk 4).trans rfl
      have q5 := (blk_cell hbk 5).trans rfl
      have f0 := blk_frozen hbk
      have HBK := Aside0.mk hbk
      clear hbk
      go_wp2
      refine bodyPost_ret (results_list (rs := [.cell 6 78, .tmp 7]) rfl (by simp) (.cell (b + 1) 78 #[.int .i64 0, .int .i64 0, .int .i64 0, .int .u32 0, .int .u32 0, .slice none 0 0] (0, 0) _ rfl (blk_put6 HBK.out) hu78 rfl (by kernel_rfl) (.tmp .nil))) rfl ?_
      have hw := HW.out
      have hB := below_then HB0.out (by omega) hbel
      rw [HFO.out]
      have h1 : w.heap.size ≤ b + 1 := by omega
      exact ⟨.slice none 0 0, rfl, Kd.R_nil _ _ _ _ _, (((((hB.setCell h1 _).setCell h1 _).setCell h1 _).setCell h1 _).setCell h1 _).setCell h1 _⟩
/-- The row that a packet goes by. -/
def usedOf (l : List S78) (router s g : Int) : Option Nat :=
  match firstOf (rowIs router s g) l with
  | some k => some k
  | none => firstOf (rowIs router 0 g) l
theorem used_first {l : List S78} {router s g : Int} {k : Nat} (h : firstOf (rowIs router s g) l = some k) : usedOf l router s g = some k := by unfold usedOf; rw [h]
theorem used_any {l : List S78} {router s g : Int} (h : firstOf (rowIs router s g) l = none) : usedOf l router s g = firstOf (rowIs router 0 g) l := by unfold usedOf; rw [h]
set_option maxHeartbeats 4000000 in
set_option maxRecDepth 100000 in
theorem row_any (A : Option Addr) (n c : Nat) (l : List S78) (router s g : Int) (w : World) (hr : Kd.C k78 w A n l) (hl : ∀ x ∈ l, x.f4.length ≤ 1000000) :
    Calls Try.prog 38 #[.int .i64 router, .slice A n c, .agg #[.int .u32 s, .int .u32 g]] w fun e w' => ∃ v, e = .returned (.tuple #[.agg (cells78 (rowAt l (usedOf l router s g)) v), .bool (usedOf l router s g).isSome]) ∧ (Kd.int .i64).R 3 w' w.heap.size (fun _ => True) v (rowAt l (usedOf l router s g)).f4 ∧ Below w.heap.size w w' := by
  have hu78 := Try.underlying78
  have hu69 := Try.underlying69
  have HC := Aside0.mk hr
  have HL := Aside0.mk hl
  clear hr hl
  have hb0 : Below w.heap.size w ((w.alloc (.cells #[.int .u32 s, .int .u32 g] 69 (0, 0))).alloc (.cells #[.int .i64 0, .int .i64 0, .int .i64 0, .int .u32 0, .int .u32 0, .slice none 0 0] 78 (0, 0))) := ((Below.refl _ _).alloc (Nat.le_refl _) _).alloc (by simp) _
  have hk : ((w.alloc (.cells #[.int .u32 s, .int .u32 g] 69 (0, 0))).alloc (.cells #[.int .i64 0, .int .i64 0, .int .i64 0, .int .u32 0, .int .u32 0, .slice none 0 0] 78 (0, 0))).heap[w.heap.size]? = some (.cells #[.int .u32 s, .int .u32 g] 69 (0, 0)) := by rw [Below.heap_alloc _ _ _ (by simp)]; exact heap_alloc_new w _
  have hr6 : ((w.alloc (.cells #[.int .u32 s, .int .u32 g] 69 (0, 0))).alloc (.cells #[.int .i64 0, .int .i64 0, .int .i64 0, .int .u32 0, .int .u32 0, .slice none 0 0] 78 (0, 0))).heap[w.heap.size + 1]? = some (.cells #[.int .i64 0, .int .i64 0, .int .i64 0, .int .u32 0, .int .u32 0, .slice none 0 0] 78 (0, 0)) := by have := heap_alloc_new (w.alloc (.cells #[.int .u32 s, .int .u32 g] 69 (0, 0))) (.cells #[.int .i64 0, .int .i64 0, .int .i64 0, .int .u32 0, .int .u32 0, .slice none 0 0] 78 (0, 0)); simpa using this
  have hsz : ((w.alloc (.cells #[.int .u32 s, .int .u32 g] 69 (0, 0))).alloc (.cells #[.int .i64 0, .int .i64 0, .int .i64 0, .int .u32 0, .int .u32 0, .slice none 0 0] 78 (0, 0))).heap.size = w.heap.size + 2 := by simp
  have HS := Aside0.mk (And.intro hb0 (And.intro hk (And.intro hr6 hsz)))
  clear hb0 hk hr6 hsz
  go_enter Try.func38, Try.ntmps38
  go_wp2_with fail
  obtain ⟨hb0, hk, hr6, hsz⟩ := HS.out
  clear HS
  generalize (w.alloc (.cells #[.int .u32 s, .int .u32 g] 69 (0, 0))).alloc (.cells #[.int .i64 0, .int .i64 0, .int .i64 0, .int .u32 0, .int .u32 0, .slice none 0 0] 78 (0, 0)) = W at *
  have HC1 := Aside0.mk (Kd.C_below HC.out hb0)
  have HB0 := Aside0.mk hb0
  obtain ⟨b, hbw⟩ : ∃ b, b = w.heap.size := ⟨_, rfl⟩
  rw [← hbw] at hk hr6 hsz ⊢
  have HW := Aside0.mk hbw
  refine (find_any A n c l router s g W HC1.out HL.out).mono ?_
  rintro e w1 ⟨v, rfl, hown, hb1⟩
  have k1 := blk_below hk hb1
  have r1 := blk_below hr6 hb1
  have hs1 := hb1.size
  have HC2 := Aside0.mk (Kd.C_below HC1.out hb1)
  obtain ⟨A1, c1, rfl⟩ := Kd.R_slice hown
  have kc1 := (blk_cell k1 1).trans rfl
  have HR1 := Aside0.mk r1
  have HK1 := Aside0.mk k1
  have HB1 := Aside0.mk hb1
  have HO1 := Aside0.mk hown
  clear hbw hb0 HC hb1 hown k1 r1 hk hr6
  cases hfo : firstOf (rowIs router s g) l with
  | some k =>
    have HU := Aside0.mk (used_first hfo)
    rw [hfo] at HO1
    obtain ⟨x, hx⟩ : ∃ x, x = rowAt l (some k) := ⟨_, rfl⟩
    rw [← hx] at HO1 ⊢
    have HX := Aside0.mk hx
    simp only [cells78, Option.isSome_some]
    have q0 := (blk_cell HR1.out 0).trans rfl
    have q1 := (blk_cell HR1.out 1).trans rfl
    have q2 := (blk_cell HR1.out 2).trans rfl
    have q3 := (blk_cell HR1.out 3).trans rfl
    have q4 := (blk_cell HR1.out 4).trans rfl
    have q5 := (blk_cell HR1.out 5).trans rfl
    have f0 := blk_frozen HR1.out
    have hlt1 : b + 1 < w1.heap.size := by omega
    clear hx hfo kc1
    go_wp2
    refine bodyPost_ret (results_list (rs := [.cell 6 78, .tmp 7]) rfl (by simp) (.cell (b + 1) 78 #[.int .i64 x.f0, .int .i64 x.f1, .int .i64 x.f2, .int .u32 x.f3.f0, .int .u32 x.f3.f1, .slice A1 x.f4.length c1] (0, 0) _ rfl (blk_alloc (blk_put6 HR1.out) _) hu78 rfl (by kernel_rfl) (.tmp .nil))) rfl ?_
    have hw := HW.out
    rw [HU.out, ← HX.out]
    have hB := below_then HB0.out (by omega) HB1.out
    have h1 : w.heap.size ≤ b + 1 := by omega
    have hB6 := (((((hB.setCell (p := ⟨b + 1, 0, none⟩) h1 (.int .i64 x.f0)).setCell (p := ⟨b + 1, 1, none⟩) h1 (.int .i64 x.f1)).setCell (p := ⟨b + 1, 2, none⟩) h1 (.int .i64 x.f2)).setCell (p := ⟨b + 1, 3, none⟩) h1 (.int .u32 x.f3.f0)).setCell (p := ⟨b + 1, 4, none⟩) h1 (.int .u32 x.f3.f1)).setCell (p := ⟨b + 1, 5, none⟩) h1 (.slice A1 x.f4.length c1)
    refine ⟨.slice A1 x.f4.length c1, rfl, ?_, hB6.alloc (Nat.le_trans hB.size (by simp)) _⟩
    refine Kd.R_lower (Kd.R_alloc (R_high HO1.out (fun k hk => ?_)) _) (by omega)
    rw [Below.heap_setCell _ _ _ _ (by show k ≠ b + 1; omega), Below.heap_setCell _ _ _ _ (by show k ≠ b + 1; omega), Below.heap_setCell _ _ _ _ (by show k ≠ b + 1; omega), Below.heap_setCell _ _ _ _ (by show k ≠ b + 1; omega), Below.heap_setCell _ _ _ _ (by show k ≠ b + 1; omega), Below.heap_setCell _ _ _ _ (by show k ≠ b + 1; omega)]
  | none =>
    have HU := Aside0.mk (used_any hfo)
    rw [hfo] at HO1
    simp only [cells78, rowAt, Option.isSome_none]
    have hlt1 : b + 1 < w1.heap.size := by omega
    have hlt0 : b < w1.heap.size := by omega
    clear hfo
    have hbA := Below.alloc (Below.refl w1.heap.size w1) (Nat.le_refl _) (.cells #[.int .i64 z78.f0, .int .i64 z78.f1, .int .i64 z78.f2, .int .u32 z78.f3.f0, .int .u32 z78.f3.f1, .slice A1 z78.f4.length c1] 78 (0, 0))
    have hsA : (w1.alloc (.cells #[.int .i64 z78.f0, .int .i64 z78.f1, .int .i64 z78.f2, .int .u32 z78.f3.f0, .int .u32 z78.f3.f1, .slice A1 z78.f4.length c1] 78 (0, 0))).heap.size = w1.heap.size + 1 := by simp
    have HBA := Aside0.mk (And.intro hbA hsA)
    clear hbA hsA
    go_wp2_with fail
    obtain ⟨hbA, hsA⟩ := HBA.out
    have r2 := blk_below HR1.out hbA
    have hC2 := Kd.C_below HC2.out hbA
    generalize w1.alloc (.cells #[.int .i64 z78.f0, .int .i64 z78.f1, .int .i64 z78.f2, .int .u32 z78.f3.f0, .int .u32 z78.f3.f1, .slice A1 z78.f4.length c1] 78 (0, 0)) = W2 at *
    refine (find_any A n c l router 0 g W2 hC2 HL.out).mono ?_
    rintro e w3 ⟨v3, rfl, hown3, hb3⟩
    have r3 := blk_below r2 hb3
    have hs3 := hb3.size
    obtain ⟨A3, c3, rfl⟩ := Kd.R_slice hown3
    have hs0 := HB1.out.size
    have hw0 := HW.out
    have hB := below_then (below_then (below_then HB0.out (by omega) HB1.out) (by omega) hbA) (by omega) hb3
    generalize firstOf (rowIs router 0 g) l = o at *
    obtain ⟨x, hx⟩ : ∃ x, x = rowAt l o := ⟨_, rfl⟩
    rw [← hx] at hown3 ⊢
    have HX := Aside0.mk hx
    simp only [cells78]
    have q0 := (blk_cell r3 0).trans rfl
    have q1 := (blk_cell r3 1).trans rfl
    have q2 := (blk_cell r3 2).trans rfl
    have q3 := (blk_cell r3 3).trans rfl
    have q4 := (blk_cell r3 4).trans rfl
    have q5 := (blk_cell r3 5).trans rfl
    have f0 := blk_frozen r3
    have HR3 := Aside0.mk r3
    have HO3 := Aside0.mk hown3
    have HB := Aside0.mk hB
    clear hx r3 r2 hown3 hB hbA hC2 hb3 HBA hw0
    go_wp2
    refine bodyPost_ret (results_list (rs := [.cell 6 78, .tmp 7]) rfl (by simp) (.cell (b + 1) 78 #[.int .i64 x.f0, .int .i64 x.f1, .int .i64 x.f2, .int .u32 x.f3.f0, .int .u32 x.f3.f1, .slice A3 x.f4.length c3] (0, 0) _ rfl (blk_put6 HR3.out) hu78 rfl (by kernel_rfl) (.tmp .nil))) rfl ?_
    have hw := HW.out
    rw [HU.out, ← HX.out]
    have h1 : w.heap.size ≤ b + 1 := by omega
    refine ⟨.slice A3 x.f4.length c3, rfl, ?_, (((((HB.out.setCell h1 _).setCell h1 _).setCell h1 _).setCell h1 _).setCell h1 _).setCell h1 _⟩
    refine Kd.R_lower (R_high HO3.out (fun k hk => ?_)) (by omega)
    rw [Below.heap_setCell _ _ _ _ (by show k ≠ b + 1; omega), Below.heap_setCell _ _ _ _ (by show k ≠ b + 1; omega), Below.heap_setCell _ _ _ _ (by show k ≠ b + 1; omega), Below.heap_setCell _ _ _ _ (by show k ≠ b + 1; omega), Below.heap_setCell _ _ _ _ (by show k ≠ b + 1; omega), Below.heap_setCell _ _ _ _ (by show k ≠ b + 1; omega)]
end Go.Proofs.Ytjcihhkeehjgdaa
