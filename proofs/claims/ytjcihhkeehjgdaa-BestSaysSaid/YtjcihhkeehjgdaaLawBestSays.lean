/- BestSays: the walk of the law. -/
import Derived.Test.YtjcihhkeehjgdaaBestPlain
import Derived.Deep.RegionHeld3
namespace Go.Proofs.Ytjcihhkeehjgdaa
open Go.RowKit Go.Proofs.YtjcihhkeehjgdaaW.PrintWords
set_option linter.unusedVariables false
set_option linter.unusedSimpArgs false
/-- The place of the best of the first j, as the statement reckons it. -/
def atTo (l : List SBid) (j : Nat) : Int := if j = 0 then -1 else bestTo l j
theorem atTo_one (l : List SBid) : atTo l (0 + 1) = 0 := by simp [atTo, bestTo]
theorem below_drewN' {B : Nat} {w W : World} (h : Below B w W) (n : Nat) : Below B w (W.drewN n) := pw_below_drewN h n
set_option maxHeartbeats 4000000 in
set_option maxRecDepth 100000 in
theorem bestSays_walk (own : SBid) (ex : Bool) (A0 A1 : Option Addr) (n0 n1 c0 c1 : Nat) (l other : List SBid) (w : World) (hr0 : Kd.C kBid w A0 n0 l) (hr1 : Kd.C kBid w A1 n1 other) (h0 : ¬ (20 : Int) < n0) (h1 : ¬ (20 : Int) < n1) :
    Calls Try.prog 4 #[.agg #[.int .i64 own.f0, .int .u32 own.f1], .bool ex, .slice A0 n0 c0, .slice A1 n1 c1] w fun e w' => e = .returned (.bool true) ∧ Below w.heap.size w w' := by
  have hu30 := Try.underlying30
  have HN0 := Aside0.mk hr0.1
  have HN1 := Aside0.mk hr1.1
  obtain ⟨lo, HLO, hc⟩ : ∃ lo : Bool, Aside0 (lo = (!ex && decide (0 < n1))) ∧ (ex = true ∨ (ex = false ∧ n1 = 0) ∨ (ex = false ∧ (0 : Int) < n1)) := ⟨_, ⟨rfl⟩, by cases ex <;> simp <;> omega⟩
  rcases hc with rfl | ⟨rfl, rfl⟩ | ⟨rfl, hn1⟩
  all_goals
    go_enter Try.func4, Try.ntmps4
    go_wp2_with fail
    have hbox := heap_alloc_new w (.cells #[.int .i64 own.f0, .int .u32 own.f1] 30 (0, 0))
    have hbel : Below w.heap.size w (w.alloc (.cells #[.int .i64 own.f0, .int .u32 own.f1] 30 (0, 0))) := (Below.refl _ _).alloc (Nat.le_refl _) _
    have hrW0 := Kd.C_below hr0 hbel
    generalize w.alloc (.cells #[.int .i64 own.f0, .int .u32 own.f1] 30 (0, 0)) = W at *
    obtain ⟨g, hge⟩ : ∃ g, g = w.heap.size := ⟨_, rfl⟩
    rw [← hge] at hbox hbel ⊢
    have HGE := Aside0.mk hge
    clear hge
    refine (first18_any W).mono ?_
    rintro e w1 ⟨rfl, hb1⟩
    have q0 : w1.cell? ⟨g, 0, none⟩ = some (.int .i64 own.f0) := pw_cell_below hb1 ((blk_cell hbox 0).trans rfl)
    have q1 : w1.cell? ⟨g, 1, none⟩ = some (.int .u32 own.f1) := pw_cell_below hb1 ((blk_cell hbox 1).trans rfl)
    have hbel1 : Below g w w1 := below_then hbel (by rw [HGE.out]; rw [HGE.out] at hbel; exact hbel.size) hb1
    have hr1' := Kd.C_below hrW0 hb1
    clear hbox hbel hb1 hrW0
    go_wp2_with fail
    go_loopg [10, 11, 12] n0 (fun k v o i wr => ∃ j : Nat, j + k = n0 ∧ i = .int .i64 j ∧ v = .int .i64 (atTo l j) ∧ o = .bool (lo || (l.take j).any (fun y => better y own)) ∧ Below w1.heap.size w1 wr)
    case atStart => exact ⟨0, by omega, rfl, rfl, by rw [HLO.out]; first | rfl | simp [hn1] | simp, Below.refl _ _⟩
    case round =>
      obtain ⟨j, hj, rfl, rfl, rfl, hbel⟩ := hrel
      by_cases hlt : j < n0
      · have hC := Kd.C_below hr1' hbel
        have p0 := pw_cell_below hbel q0
        have p1 := pw_cell_below hbel q1
        obtain ⟨ad, x, rfl, x0, x1, HX⟩ := bid_at hC j hlt
        clear hC
        have HANY : Aside0 ((l.take (j + 1)).any (fun y => better y own) = ((l.take j).any (fun y => better y own) || better x own)) := ⟨by rw [HX.out]; exact any_take_succ l own j (by rw [HN0.out]; exact hlt)⟩
        obtain ⟨lv, hlv⟩ : ∃ lv, lv = (lo || (l.take j).any (fun y => better y own)) := ⟨_, rfl⟩
        have HLV := Aside0.mk hlv
        rw [← hlv]
        clear hlv
        go_wp2_with fail
        go_region_held3 (fun w' => w'.cell? ⟨g, 0, none⟩ = some (.int .i64 own.f0) ∧ w'.cell? ⟨g, 1, none⟩ = some (.int .u32 own.f1) ∧ w'.cell? (ad.add (j * 2)) = some (.int .i64 x.f0) ∧ w'.cell? ⟨(ad.add (j * 2)).block, (ad.add (j * 2)).off + 1, none⟩ = some (.int .u32 x.f1) ∧ Below wr.heap.size wr w') (refine ⟨?_, ?_, ?_, ?_, ?_⟩ <;> first | assumption | exact Below.refl _ _ | (refine below_drew ?_; assumption) | (refine below_drew ?_; exact Below.refl _ _))
          (first | (go_at_call 17; refine (better_any x own _).mono ?_; rintro e w2 ⟨rfl, hb2⟩; have hb3 : Below wr.heap.size wr w2 := (by first | exact below_then (below_drew (Below.refl _ _)) (Nat.le_refl _) hb2 | exact below_then ‹Below wr.heap.size wr _› (Below.size ‹Below wr.heap.size wr _›) hb2); have s0 := pw_cell_below hb3 p0; have s1 := pw_cell_below hb3 p1; have s2 := pw_cell_below hb3 x0; have s3 := pw_cell_below hb3 x1) | (go_at_call 18; refine (cheap_any x own _).mono ?_; rintro e w2 ⟨rfl, hb2⟩; have hb3 : Below wr.heap.size wr w2 := (by first | exact below_then (below_drew (Below.refl _ _)) (Nat.le_refl _) hb2 | exact below_then ‹Below wr.heap.size wr _› (Below.size ‹Below wr.heap.size wr _›) hb2); have s0 := pw_cell_below hb3 p0; have s1 := pw_cell_below hb3 p1; have s2 := pw_cell_below hb3 x0; have s3 := pw_cell_below hb3 x1))
        have hbel2 := below_then hbel hbel.size hb3
        obtain ⟨W2, hW2⟩ : ∃ z, z = w2 := ⟨_, rfl⟩
        subst hW2
        clear p0 p1 x0 x1 hb2 hb3 hbel
        have p0 := s0
        have p1 := s1
        have x0 := s2
        have x1 := s3
        clear s0 s1 s2 s3
        go_wp2_with fail
        cases lv with
        | true =>
          have HL : Aside0 (Value.bool true = .bool (lo || (l.take (j + 1)).any (fun y => better y own))) := ⟨by rw [HANY.out, ← Bool.or_assoc, ← HLV.out]; rfl⟩
          go_quiet (fail)
          have hbel := below_drewN' hbel2 nq
          have x0' := x0
          have x1' := x1
          generalize hW3 : W2.drewN nq = W3 at *
          have x0 : W3.cell? (ad.add (j * 2)) = some (.int .i64 x.f0) := by rw [← hW3]; exact x0'
          have x1 : W3.cell? ⟨(ad.add (j * 2)).block, (ad.add (j * 2)).off + 1, none⟩ = some (.int .u32 x.f1) := by rw [← hW3]; exact x1'
          clear x0' x1' hW3 hbel2 p0 p1
          go_wp2_with fail
          rcases Nat.eq_zero_or_pos j with hz | hz
          · subst hz
            rw [show atTo l 0 = -1 from rfl]

            go_quiet (fail)
            go_wp2
            go_roundg (gk - 1)
            case measure => omega
            case rel => exact ⟨0 + 1, by omega, by go_num, word_int (atTo_one l).symm, HL.out, below_drewN' hbel _⟩
          · obtain ⟨b, hbe⟩ : ∃ b, b = bestTo l j := ⟨_, rfl⟩
            have HBE := Aside0.mk hbe
            have hbl : b < j := by have := bestTo_le l j; omega
            rw [show atTo l j = (b : Int) by rw [atTo, if_neg (by omega), hbe]]
            clear hbe

            obtain ⟨ad2, y, e2, y0, y1, HY⟩ := bid_at (Kd.C_below hr1' hbel) b (by omega)
            have hbi : (b : Int) < (n0 : Int) := by omega
            have hbi0 : (0 : Int) ≤ (b : Int) := by omega
            cases e2
            go_region_held3 (fun w' => w'.cell? (ad.add (j * 2)) = some (.int .i64 x.f0) ∧ w'.cell? ⟨(ad.add (j * 2)).block, (ad.add (j * 2)).off + 1, none⟩ = some (.int .u32 x.f1) ∧ w'.cell? (ad.add (b * 2)) = some (.int .i64 y.f0) ∧ w'.cell? ⟨(ad.add (b * 2)).block, (ad.add (b * 2)).off + 1, none⟩ = some (.int .u32 y.f1) ∧ Below W3.heap.size W3 w') (refine ⟨?_, ?_, ?_, ?_, ?_⟩ <;> first | assumption | exact Below.refl _ _ | (refine below_drew ?_; assumption) | (refine below_drew ?_; exact Below.refl _ _))
              (first | (go_at_call 18; refine (cheap_any x y _).mono ?_; rintro e w2 ⟨rfl, hb2⟩; have hb3 : Below W3.heap.size W3 w2 := (by first | exact below_then (below_drew (Below.refl _ _)) (Nat.le_refl _) hb2 | exact below_then ‹Below W3.heap.size W3 _› (Below.size ‹Below W3.heap.size W3 _›) hb2); have s0 := pw_cell_below hb3 x0; have s1 := pw_cell_below hb3 x1; have s2 := pw_cell_below hb3 y0; have s3 := pw_cell_below hb3 y1))
            have hbel4 := below_then hbel hbel.size hb3
            have HS2 : Aside0 (atTo l (j + 1) = if better x y = true then (j : Int) else (b : Int)) := ⟨by rw [atTo, if_neg (by omega), HX.out, HY.out, HBE.out]; simp only [bestTo]; split <;> rfl⟩
            clear hb2 hb3 hbel
            go_wp2
            all_goals first
              | (have hbt0 : (b : Int) < 0 ∨ better x y = true := by assumption
                 have hbt : better x y = true := by rcases hbt0 with h | h; (exact absurd h (by omega)); exact h
                 rw [hbt, if_pos rfl] at HS2
                 go_roundg (gk - 1)
                 case measure => omega
                 case rel => exact ⟨j + 1, by omega, by go_num, word_int (by rw [HS2.out]), HL.out, hbel4⟩)
              | (have hbt0 : (0 : Int) ≤ (b : Int) ∧ better x y = false := by assumption
                 have hbt := hbt0.2
                 rw [hbt, if_neg (by simp)] at HS2
                 go_roundg (gk - 1)
                 case measure => omega
                 case rel => exact ⟨j + 1, by omega, by go_num, word_int (by rw [HS2.out]), HL.out, hbel4⟩)
              | go_ways
        | false =>
          have HL : Aside0 (Value.bool (better x own) = .bool (lo || (l.take (j + 1)).any (fun y => better y own))) := ⟨by rw [HANY.out, ← Bool.or_assoc, ← HLV.out]; rfl⟩
          go_region_held3 (fun w' => w'.cell? ⟨g, 0, none⟩ = some (.int .i64 own.f0) ∧ w'.cell? ⟨g, 1, none⟩ = some (.int .u32 own.f1) ∧ w'.cell? (ad.add (j * 2)) = some (.int .i64 x.f0) ∧ w'.cell? ⟨(ad.add (j * 2)).block, (ad.add (j * 2)).off + 1, none⟩ = some (.int .u32 x.f1) ∧ Below W2.heap.size W2 w') (refine ⟨?_, ?_, ?_, ?_, ?_⟩ <;> first | assumption | exact Below.refl _ _ | (refine below_drew ?_; assumption) | (refine below_drew ?_; exact Below.refl _ _))
            (first | (go_at_call 18; refine (cheap_any x own _).mono ?_; rintro e w2 ⟨rfl, hb2⟩; have hb3 : Below W2.heap.size W2 w2 := (by first | exact below_then (below_drew (Below.refl _ _)) (Nat.le_refl _) hb2 | exact below_then ‹Below W2.heap.size W2 _› (Below.size ‹Below W2.heap.size W2 _›) hb2); have s0 := pw_cell_below hb3 p0; have s1 := pw_cell_below hb3 p1; have s2 := pw_cell_below hb3 x0; have s3 := pw_cell_below hb3 x1))
          have hbel := below_then hbel2 hbel2.size hb3
          obtain ⟨W3, hW3⟩ : ∃ z, z = w2 := ⟨_, rfl⟩
          subst hW3
          clear p0 p1 x0 x1 hb2 hb3 hbel2
          have x0 := s2
          have x1 := s3
          clear s0 s1 s2 s3
          go_wp2_with fail
          rcases Nat.eq_zero_or_pos j with hz | hz
          · subst hz
            rw [show atTo l 0 = -1 from rfl]

            go_quiet (fail)
            go_wp2
            go_roundg (gk - 1)
            case measure => omega
            case rel => exact ⟨0 + 1, by omega, by go_num, word_int (atTo_one l).symm, HL.out, below_drewN' hbel _⟩
          · obtain ⟨b, hbe⟩ : ∃ b, b = bestTo l j := ⟨_, rfl⟩
            have HBE := Aside0.mk hbe
            have hbl : b < j := by have := bestTo_le l j; omega
            rw [show atTo l j = (b : Int) by rw [atTo, if_neg (by omega), hbe]]
            clear hbe

            obtain ⟨ad2, y, e2, y0, y1, HY⟩ := bid_at (Kd.C_below hr1' hbel) b (by omega)
            have hbi : (b : Int) < (n0 : Int) := by omega
            have hbi0 : (0 : Int) ≤ (b : Int) := by omega
            cases e2
            go_region_held3 (fun w' => w'.cell? (ad.add (j * 2)) = some (.int .i64 x.f0) ∧ w'.cell? ⟨(ad.add (j * 2)).block, (ad.add (j * 2)).off + 1, none⟩ = some (.int .u32 x.f1) ∧ w'.cell? (ad.add (b * 2)) = some (.int .i64 y.f0) ∧ w'.cell? ⟨(ad.add (b * 2)).block, (ad.add (b * 2)).off + 1, none⟩ = some (.int .u32 y.f1) ∧ Below W3.heap.size W3 w') (refine ⟨?_, ?_, ?_, ?_, ?_⟩ <;> first | assumption | exact Below.refl _ _ | (refine below_drew ?_; assumption) | (refine below_drew ?_; exact Below.refl _ _))
              (first | (go_at_call 18; refine (cheap_any x y _).mono ?_; rintro e w2 ⟨rfl, hb2⟩; have hb3 : Below W3.heap.size W3 w2 := (by first | exact below_then (below_drew (Below.refl _ _)) (Nat.le_refl _) hb2 | exact below_then ‹Below W3.heap.size W3 _› (Below.size ‹Below W3.heap.size W3 _›) hb2); have s0 := pw_cell_below hb3 x0; have s1 := pw_cell_below hb3 x1; have s2 := pw_cell_below hb3 y0; have s3 := pw_cell_below hb3 y1))
            have hbel4 := below_then hbel hbel.size hb3
            have HS2 : Aside0 (atTo l (j + 1) = if better x y = true then (j : Int) else (b : Int)) := ⟨by rw [atTo, if_neg (by omega), HX.out, HY.out, HBE.out]; simp only [bestTo]; split <;> rfl⟩
            clear hb2 hb3 hbel
            go_wp2
            all_goals first
              | (have hbt0 : (b : Int) < 0 ∨ better x y = true := by assumption
                 have hbt : better x y = true := by rcases hbt0 with h | h; (exact absurd h (by omega)); exact h
                 rw [hbt, if_pos rfl] at HS2
                 go_roundg (gk - 1)
                 case measure => omega
                 case rel => exact ⟨j + 1, by omega, by go_num, word_int (by rw [HS2.out]), HL.out, hbel4⟩)
              | (have hbt0 : (0 : Int) ≤ (b : Int) ∧ better x y = false := by assumption
                 have hbt := hbt0.2
                 rw [hbt, if_neg (by simp)] at HS2
                 go_roundg (gk - 1)
                 case measure => omega
                 case rel => exact ⟨j + 1, by omega, by go_num, word_int (by rw [HS2.out]), HL.out, hbel4⟩)
              | go_ways
      · obtain rfl : j = n0 := by omega
        have hgs : g ≤ w1.heap.size := by rw [HGE.out]; rw [HGE.out] at hbel1; exact hbel1.size
        have hgs2 := hbel.size
        have hbw : Below g w wr := below_then hbel1 hgs hbel
        have p0 := pw_cell_below hbel q0
        have p1 := pw_cell_below hbel q1
        have hrr := Kd.C_below hr1' hbel
        have HLB : Aside0 (lostB own _ l other = (lo || (l.take j).any (fun y => better y own))) := ⟨by
          rw [lostB, HLO.out, HN1.out, List.take_of_length_le (by rw [HN0.out]; exact Nat.le_refl _)]⟩
        clear hbel hbel1 hr1' q0 q1
        rcases Nat.eq_zero_or_pos j with hz | hz
        · subst hz
          rw [show atTo l 0 = -1 from rfl]
          go_wp2_with fail
          refine (best_any _ _ c0 l wr hrr (by omega)).mono ?_
          rintro e w2 ⟨rfl, hb2⟩
          have hbw2 := below_then hbw (by omega) hb2
          have p0' := pw_cell_below hb2 p0
          have p1' := pw_cell_below hb2 p1
          have hr2 := Kd.C_below hrr hb2
          clear p0 p1 hrr hb2 hbw
          go_wp2_with fail
          refine (lost_any own _ _ A1 _ _ c0 c1 l other w2 hr2 (by omega) HN1.out).mono ?_
          rintro e w3 ⟨rfl, hb3⟩
          have hbw3 := below_then hbw2 (by have := hb3.size; rw [HGE.out]; rw [HGE.out] at hbw2; exact hbw2.size) hb3
          rw [HLB.out]
          clear hb3 hbw2 p0' p1' hr2
          go_wp2_with fail
          go_ret
          exact ⟨rfl, by rw [← HGE.out]; exact hbw3⟩
        · rw [show atTo l j = (bestTo l j : Int) by rw [atTo, if_neg (by omega)]]
          have hzi : (0 : Int) < (j : Int) := by omega
          go_wp2_with fail
          refine (best_any _ _ c0 l wr hrr (by omega)).mono ?_
          rintro e w2 ⟨rfl, hb2⟩
          have hbw2 := below_then hbw (by omega) hb2
          have p0' := pw_cell_below hb2 p0
          have p1' := pw_cell_below hb2 p1
          have hr2 := Kd.C_below hrr hb2
          clear p0 p1 hrr hb2 hbw
          go_wp2_with fail
          refine (lost_any own _ _ A1 _ _ c0 c1 l other w2 hr2 (by omega) HN1.out).mono ?_
          rintro e w3 ⟨rfl, hb3⟩
          have hbw3 := below_then hbw2 (by have := hb3.size; rw [HGE.out]; rw [HGE.out] at hbw2; exact hbw2.size) hb3
          rw [HLB.out]
          clear hb3 hbw2 p0' p1' hr2
          go_wp2_with fail
          go_ret
          exact ⟨rfl, by rw [← HGE.out]; exact hbw3⟩
set_option maxHeartbeats 400000 in
set_option maxRecDepth 100000 in
theorem bestSays_all (own : SBid) (ex : Bool) (A0 A1 : Option Addr) (n0 n1 c0 c1 : Nat) (l other : List SBid) (w : World) (hr0 : Kd.C kBid w A0 n0 l) (hr1 : Kd.C kBid w A1 n1 other) :
    Calls Try.prog 4 #[.agg #[.int .i64 own.f0, .int .u32 own.f1], .bool ex, .slice A0 n0 c0, .slice A1 n1 c1] w fun e w' => e = .returned (.bool true) ∧ Below w.heap.size w w' := by
  have hu30 := Try.underlying30
  by_cases h0 : (20 : Int) < n0
  · go_enter Try.func4, Try.ntmps4
    go_wp2_with (go_at_call 14; refine (first18_any _).mono ?_; rintro e w1 ⟨rfl, hb1⟩)
    go_ret
    exact ⟨rfl, below_then ((Below.refl _ _).alloc (Nat.le_refl _) _) (by simp) hb1⟩
  · by_cases h1 : (20 : Int) < n1
    · go_enter Try.func4, Try.ntmps4
      go_wp2_with (go_at_call 14; refine (first18_any _).mono ?_; rintro e w1 ⟨rfl, hb1⟩)
      go_ret
      exact ⟨rfl, below_then ((Below.refl _ _).alloc (Nat.le_refl _) _) (by simp) hb1⟩
    · exact bestSays_walk own ex A0 A1 n0 n1 c0 c1 l other w hr0 hr1 h0 h1
end Go.Proofs.Ytjcihhkeehjgdaa
