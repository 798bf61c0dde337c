/- Chapter 19: what the reference's small functions come to; the chapter's example. -/
import Derived.Test.YtjcihhkeehjgdaaFwdDo
import Derived.Test.YtjcihhkeehjgdaaPFwdBackx1
import Derived.Test.YtjcihhkeehjgdaaBestFirst
namespace Go.Proofs.Ytjcihhkeehjgdaa
open Go.RowKit Go.Proofs.YtjcihhkeehjgdaaW.PrintWords Ytjcihhkeehjgdaa.PFwdSays
set_option linter.unusedVariables false
set_option linter.unusedSimpArgs false
attribute [local go_sem high] eqA69 eqA82
theorem w64 {j : Nat} (h : j ≤ 9223372036854775806) : wrap64 ((j : Int) + 1) = ((j + 1 : Nat) : Int) := by
  unfold wrap64
  omega
theorem rd_nat (l : List Int) (i : Nat) : rd l (i : Int) = l.getD i 0 := by simp [rd]
theorem drop_at {l : List Int} {i : Nat} (h : i < l.length) : l.drop i = l.getD i 0 :: l.drop (i + 1) := by
  rw [List.drop_eq_getElem_cons h, List.getD_eq_getElem?_getD, List.getElem?_eq_getElem h]
  rfl
theorem sameInts_l (a b : List Int) (hl : a.length = b.length) (hm : a.length ≤ 1000000) : ∀ n i : Nat, n + i = a.length → rivuletref_SameInts.l0 (n + 1) a b (i : Int) = some (decide (a.drop i = b.drop i))
  | 0, i, h => by
    have h1 : ¬ ((i : Int) < (a.length : Int)) := by omega
    rw [List.drop_of_length_le (by omega), List.drop_of_length_le (by omega)]
    simp only [rivuletref_SameInts.l0, if_neg h1, decide_true]
  | n + 1, i, h => by
    have h1 : (i : Int) < (a.length : Int) := by omega
    have h2 : (i : Int) < (b.length : Int) := by omega
    have h0 : (0 : Int) ≤ (i : Int) := by omega
    have ih := sameInts_l a b hl hm n (i + 1) (by omega)
    rw [drop_at (by omega : i < a.length), drop_at (by omega : i < b.length)]
    rw [rivuletref_SameInts.l0, if_pos h1, if_pos h0, if_pos h2, rd_nat, rd_nat, w64 (by omega), ih]
    by_cases e : a.getD i 0 = b.getD i 0
    · rw [if_pos e, e]; simp
    · rw [if_neg e]; simp; intro h; exact absurd h (by simpa using e)
theorem sameInts_f (a b : List Int) (hm : a.length ≤ 1000000) : rivuletref_SameInts.f (a.length + 1) a b = some (decide (a = b)) := by
  unfold rivuletref_SameInts.f
  by_cases h : (a.length : Int) = (b.length : Int)
  · rw [if_pos h]
    have := sameInts_l a b (by omega) hm a.length 0 (by omega)
    simpa using this
  · rw [if_neg h, decide_eq_false]
    intro e; rw [e] at h; exact h rfl
theorem sameInts_any (A B : Option Addr) (n m c d : Nat) (a b : List Int) (w : World) (ha : Kd.C (Kd.int .i64) w A n a) (hb : Kd.C (Kd.int .i64) w B m b) (hc : n ≤ c) (hd : m ≤ d) (hm : a.length ≤ 1000000) :
    Calls Try.prog 41 #[.slice A n c, .slice B m d] w fun e w' => e = .returned (.bool (decide (a = b))) ∧ Drawn0 w w' := by
  obtain rfl := ha.1
  obtain rfl := hb.1
  exact rivuletref_SameInts.calls _ A c a B d b _ w ha hc hb hd (sameInts_f a b hm)
theorem sameKey_any (a0 a1 b0 b1 : Int) (w : World) :
    Calls Try.prog 39 #[.agg #[.int .u32 a0, .int .u32 a1], .agg #[.int .u32 b0, .int .u32 b1]] w fun e w' => e = .returned (.bool (a0 == b0 && a1 == b1)) ∧ Below w.heap.size w w' := by
  refine rivuletref_SameKey.calls a0 a1 b0 b1 _ w ?_
  unfold rivuletref_SameKey.f
  by_cases h : a0 = b0
  · rw [if_pos h, beq_iff_eq.2 h]; rfl
  · rw [if_neg h, beq_eq_false_iff_ne.2 h]; rfl
theorem among_l (a : List Int) (q : Int) (hm : a.length ≤ 1000000) : ∀ n i : Nat, n + i = a.length → PFwdBack.rivuletref_Among.l0 (n + 1) a q (i : Int) = some ((a.drop i).any (fun x => x == q))
  | 0, i, h => by
    have h1 : ¬ ((i : Int) < (a.length : Int)) := by omega
    rw [List.drop_of_length_le (by omega)]
    simp only [PFwdBack.rivuletref_Among.l0, if_neg h1, List.any_nil]
  | n + 1, i, h => by
    have h1 : (i : Int) < (a.length : Int) := by omega
    have h0 : (0 : Int) ≤ (i : Int) := by omega
    have ih := among_l a q hm n (i + 1) (by omega)
    rw [drop_at (by omega : i < a.length), List.any_cons]
    rw [PFwdBack.rivuletref_Among.l0, if_pos h1, if_pos h0, rd_nat, w64 (by omega), ih]
    by_cases e : a.getD i 0 = q
    · rw [if_pos e, beq_iff_eq.2 e]; rfl
    · rw [if_neg e, beq_eq_false_iff_ne.2 e]; rfl
theorem among_any (A : Option Addr) (n c : Nat) (a : List Int) (q : Int) (w : World) (ha : Kd.C (Kd.int .i64) w A n a) (hc : n ≤ c) (hm : a.length ≤ 1000000) :
    Calls Try.prog 40 #[.slice A n c, .int .i64 q] w fun e w' => e = .returned (.bool (a.any (fun x => x == q))) ∧ Drawn0 w w' := by
  obtain rfl := ha.1
  refine PFwdBack.rivuletref_Among.calls (a.length + 1) A c a q _ w ha hc ?_
  have := among_l a q hm a.length 0 (by omega)
  simpa [PFwdBack.rivuletref_Among.f] using this
/-- Are rows few, each small? -/
def lightB (l : List S78) (x : List S82) : Bool := l.all (fun y => decide (y.f4.length ≤ 12)) && (decide (l.length ≤ 20) && decide (x.length ≤ 20))
theorem light_l (l : List S78) (x : List S82) : ∀ n i : Nat, n + i = l.length → l.length ≤ 9223372036854775807 → rivuletlaw19_light.l0 (n + 1) l x (i : Int) = some ((l.drop i).all (fun y => decide (y.f4.length ≤ 12)) && (decide (l.length ≤ 20) && decide (x.length ≤ 20)))
  | 0, i, h, _ => by
    have h1 : ¬ ((i : Int) < (l.length : Int)) := by omega
    rw [List.drop_of_length_le (by omega), List.all_nil, Bool.true_and]
    simp only [rivuletlaw19_light.l0, if_neg h1]
    by_cases e : l.length ≤ 20
    · rw [if_pos (by omega), decide_eq_true e, Bool.true_and]
      congr 1
      rw [decide_eq_decide]; omega
    · rw [if_neg (by omega), decide_eq_false e]; rfl
  | n + 1, i, h, hm => by
    have h1 : (i : Int) < (l.length : Int) := by omega
    have h0 : (0 : Int) ≤ (i : Int) := by omega
    have ih := light_l l x n (i + 1) (by omega) hm
    have e1 : rd_T78 l (i : Int) = l[i]'(by omega) := by
      unfold rd_T78
      rw [Int.toNat_natCast, List.getD_eq_getElem?_getD, List.getElem?_eq_getElem (by omega)]; rfl
    rw [List.drop_eq_getElem_cons (by omega : i < l.length), List.all_cons, rivuletlaw19_light.l0, if_pos h1, if_pos h0, e1, w64 (by omega), ih]
    by_cases e : (l[i]'(by omega)).f4.length ≤ 12
    · rw [if_neg (by omega), decide_eq_true e]; simp
    · rw [if_pos (by omega), decide_eq_false e]; rfl
set_option maxHeartbeats 1000000 in
set_option maxRecDepth 100000 in
theorem lit_row (W : World) (A : Option Addr) (c : Nat) (y : S78) (hc : y.f4.length ≤ c) (hA : (Kd.int .i64).C W A y.f4.length y.f4) (xs : List S78) (cs : List Value) (h : Reps (k78.K W) 6 xs cs) : Reps (k78.K W) 6 (xs ++ [y]) (cs ++ [.int .i64 y.f0, .int .i64 y.f1, .int .i64 y.f2, .int .u32 y.f3.f0, .int .u32 y.f3.f1, .slice A y.f4.length c]) := h.snoc (k78_mk W y hc hA) rfl
theorem C_lost_none (w : World) : Kd.C k82 w none 0 [] := ⟨rfl, by simp, fun h => absurd h (by simp)⟩
theorem C_rows_none (w : World) : Kd.C k78 w none 0 [] := ⟨rfl, by simp, fun h => absurd h (by simp)⟩
theorem field75 (k s g : Int) (v : Value) (W : World) : (Instr.field 75 (.agg #[.int .i64 k, .int .u32 s, .int .u32 g, v]) 0).run Try.prog W = .ok (.int .i64 k) W := by
  have h : (part 3 #[.int .i64 k, .int .u32 s, .int .u32 g, v] 0).run Try.prog W = .ok (.int .i64 k) W := by first | (go_simp; done) | (go_simp; rfl)
  simp only [Instr.field, Sem.run_bind, run_underlying Try.underlying75, Result.andThen_ok]
  simp [asAgg, h, Sem.run_bind]
attribute [local go_sem high] field75
theorem deed_ex : deed [⟨0, 0, 0, ⟨0, 5⟩, [3]⟩] [] 0 1 5 0 = ⟨2, 0, 5, [3]⟩ := by
  simp [deed, usedOf, firstOf, rowIs, leftOut, lostIn]
theorem deed_empty : deed [] [] 0 0 0 0 = ⟨0, 0, 0, []⟩ := by simp [deed, usedOf, firstOf]
set_option maxHeartbeats 4000000 in
set_option maxRecDepth 100000 in
theorem first19_any (w : World) : Calls Try.prog 35 #[] w fun e w' => e = .returned (.bool true) ∧ Below w.heap.size w w' := by
  have hu78 := Try.underlying78
  have hu69 := Try.underlying69
  have hu71 := Try.underlying71
  have hu75 := Try.underlying75
  obtain ⟨O1, hO1⟩ : ∃ O1, O1 = Obj.cells #[.int .i64 3] 3 (0, 0) := ⟨_, rfl⟩
  obtain ⟨O2, hO2⟩ : ∃ O2, O2 = Obj.cells #[.int .i64 0, .int .i64 0, .int .i64 0, .int .u32 0, .int .u32 5, .slice (some ⟨w.heap.size, 0, none⟩) 1 1] 78 (0, 0) := ⟨_, rfl⟩
  have hb : Below w.heap.size w ((w.alloc O1).alloc O2) := ((Below.refl _ _).alloc (Nat.le_refl _) _).alloc (by simp) _
  have h2 : ((w.alloc O1).alloc O2).heap[w.heap.size + 1]? = some O2 := by
    have := heap_alloc_new (w.alloc O1) O2
    rwa [show (w.alloc O1).heap.size = w.heap.size + 1 by simp] at this
  have hA1 : (Kd.int .i64).C ((w.alloc O1).alloc O2) (some ⟨w.heap.size, 0, none⟩) 1 [3] := by
    refine Kd.C_below ?_ (Below.alloc (Below.refl _ _) (Nat.le_refl _) O2)
    rw [hO1]
    exact lit_C .i64 w 3 [3] (by decide)
  have hrep : Reps (k78.K ((w.alloc O1).alloc O2)) 6 [(⟨0, 0, 0, ⟨0, 5⟩, [3]⟩ : S78)] [.int .i64 0, .int .i64 0, .int .i64 0, .int .u32 0, .int .u32 5, .slice (some ⟨w.heap.size, 0, none⟩) 1 1] := lit_row _ _ 1 ⟨0, 0, 0, ⟨0, 5⟩, [3]⟩ (by decide) hA1 [] [] (Reps.none _ _)
  have hC : k78.C ((w.alloc O1).alloc O2) (some ⟨w.heap.size + 1, 0, none⟩) 1 [(⟨0, 0, 0, ⟨0, 5⟩, [3]⟩ : S78)] := C_of_block k78 (h2.trans (congrArg some hO2)) hrep (by decide)
  have HC := Aside0.mk hC
  have HB := Aside0.mk hb
  have HO := Aside0.mk (And.intro hO1 hO2)
  have hsz : ((w.alloc O1).alloc O2).heap.size = w.heap.size + 2 := by simp
  have HZ := Aside0.mk hsz
  clear hb h2 hA1 hrep hC hO1 hO2 hsz
  go_enter Try.func35, Try.ntmps35
  go_wp2_with fail
  obtain ⟨hO1, hO2⟩ := HO.out
  rw [← hO1, ← hO2]
  have hC := HC.out
  have hb := HB.out
  have hsz := HZ.out
  clear HO HC HB HZ hO1 hO2
  generalize (w.alloc O1).alloc O2 = W at *
  refine (do_any _ _ 1 1 0 0 _ [] 0 1 5 0 W hC (C_lost_none W) (by intro x hx; simp at hx; subst hx; decide)).mono ?_
  rw [deed_ex]
  rintro e w2 ⟨Ao, no, co, rfl, hle, hC2, hb2⟩
  have HB2 := Aside0.mk (below_then hb (by omega) hb2)
  have HC2 := Aside0.mk (And.intro hle hC2)
  clear hC hb hsz hb2 hC2 hle
  simp only
  go_wp2_with fail
  obtain ⟨hle, hC2⟩ := HC2.out
  have hb3 := ((Below.refl w2.heap.size w2).alloc (Nat.le_refl _) (.cells #[.int .i64 2, .int .u32 0, .int .u32 5, .slice Ao no co] 75 (0, 0))).alloc (by simp) (.cells #[.int .i64 3] 3 (0, 0))
  have hL := lit_C .i64 (w2.alloc (.cells #[.int .i64 2, .int .u32 0, .int .u32 5, .slice Ao no co] 75 (0, 0))) 3 [3] (by decide)
  rw [show (w2.alloc (.cells #[.int .i64 2, .int .u32 0, .int .u32 5, .slice Ao no co] 75 (0, 0))).heap.size = w2.heap.size + 1 by simp] at hL
  refine (sameInts_any _ _ no 1 co 1 [3] [3] _ (Kd.C_below hC2 hb3) hL hle (Nat.le_refl _) (by decide)).mono ?_
  rintro e w3 ⟨rfl, m, rfl⟩
  have HB3 := Aside0.mk (pw_below_drewN (below_then HB2.out HB2.out.size hb3) m)
  clear hC2 hb3 hL HB2 HC2
  rw [show decide ([3] = ([3] : List Int)) = true from rfl]
  go_wp2_with fail
  refine (do_any none none 0 0 0 0 [] [] 0 0 0 0 _ (C_rows_none _) (C_lost_none _) (by intro x hx; cases hx)).mono ?_
  rw [deed_empty]
  rintro e w4 ⟨Ao', no', co', rfl, hle', hC4, hb4⟩
  have HB4 := Aside0.mk (below_then HB3.out HB3.out.size hb4)
  clear HB3 hb4 hC4
  simp only
  go_wp2
  go_ret
  exact ⟨rfl, HB4.out⟩
end Go.Proofs.Ytjcihhkeehjgdaa
