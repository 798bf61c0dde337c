/- The chapter's examples of queues; rows of small items. -/
import Derived.Test.YtjcihhkeehjgdaaQCopy
import Derived.Test.YtjcihhkeehjgdaaFlip
namespace Go.Proofs.Ytjcihhkeehjgdaa
open Go.RowKit Go.Proofs.YtjcihhkeehjgdaaW.PrintWords SumPlain
set_option linter.unusedVariables false
set_option linter.unusedSimpArgs false
attribute [local go_sem] setCell_drewN alloc_drewN
/-- The items s, s+1, .. with one byte each. -/
def seqL : Nat → Nat → List (Int × List Int)
  | _, 0 => []
  | s, n + 1 => ((s : Int), [(s : Int) % 256]) :: seqL (s + 1) n
/-- The same without one. -/
def remL (a : Nat) : Nat → Nat → List (Int × List Int)
  | _, 0 => []
  | s, n + 1 => if s = a then remL a (s + 1) n else ((s : Int), [(s : Int) % 256]) :: remL a (s + 1) n
theorem seqL_length : ∀ (n s : Nat), (seqL s n).length = n
  | 0, _ => rfl
  | n + 1, s => by simp [seqL, seqL_length n]
theorem seqL_snoc : ∀ (n s : Nat), seqL s (n + 1) = seqL s n ++ [(((s + n : Nat) : Int), [((s + n : Nat) : Int) % 256])]
  | 0, s => by simp [seqL]
  | n + 1, s => by
    have ih := seqL_snoc n (s + 1)
    rw [show s + 1 + n = s + (n + 1) by omega] at ih
    rw [seqL, ih]
    simp [seqL]
theorem seqL_getD : ∀ (n s k : Nat), k < n → (seqL s n).getD k (0, []) = (((s + k : Nat) : Int), [((s + k : Nat) : Int) % 256])
  | 0, _, _, h => by omega
  | n + 1, s, 0, _ => rfl
  | n + 1, s, k + 1, h => by
    have ih := seqL_getD n (s + 1) k (by omega)
    rw [show s + 1 + k = s + (k + 1) by omega] at ih
    exact ih
theorem remL_past : ∀ (n s a : Nat), a < s → remL a s n = seqL s n
  | 0, _, _, _ => rfl
  | n + 1, s, a, h => by rw [remL, if_neg (by omega), seqL, remL_past n (s + 1) a (by omega)]
theorem seqL_erase : ∀ (n s k : Nat), k < n → (seqL s n).eraseIdx k = remL (s + k) s n
  | 0, _, _, h => by omega
  | n + 1, s, 0, _ => by
    rw [remL, if_pos (by omega), remL_past n (s + 1) (s + 0) (by omega)]
    rfl
  | n + 1, s, k + 1, h => by
    rw [remL, if_neg (by omega), seqL, List.eraseIdx_cons_succ, seqL_erase n (s + 1) k (by omega), show s + 1 + k = s + (k + 1) by omega]
theorem remL_len : ∀ (n s a : Nat), (remL a s n).length ≤ n
  | 0, _, _ => Nat.le_refl _
  | n + 1, s, a => by
    rw [remL]
    have := remL_len n (s + 1) a
    split
    · omega
    · simp; omega
theorem QS.new (base : Nat) (ok : Nat → Prop) (w : World) : QS base ok (w.alloc (.cells #[.slice none 0 0, .int .i64 0] 38)) w.heap.size [] 0 := ⟨_, heap_alloc_new w _, Kd.S_nil _ _ _ _ _⟩
set_option maxHeartbeats 2000000 in
set_option maxRecDepth 100000 in
theorem first24_any (w : World) : Calls Try.prog 19 #[] w fun e w' => e = .returned (.bool true) ∧ Below w.heap.size w w' := by
  have hu := Try.underlying38
  obtain ⟨W, hW⟩ : ∃ W, W = w.alloc (.cells #[.slice none 0 0, .int .i64 0] 38) := ⟨_, rfl⟩
  have hb : Below w.heap.size w W := by rw [hW]; exact below_alloc (Below.refl _ _) _
  have hQ : QS w.heap.size (fun _ => True) W w.heap.size [] 0 := by rw [hW]; exact QS.new _ _ _
  obtain ⟨X, hX⟩ : ∃ X, X = W.alloc (.cells #[.int .u8 5] 5) := ⟨_, rfl⟩
  have hbX : Below W.heap.size W X := by rw [hX]; exact below_alloc (Below.refl _ _) _
  have hsW : W.heap.size = w.heap.size + 1 := by rw [hW]; simp
  have hC : Kd.C (Kd.int .u8) X (some ⟨w.heap.size + 1, 0, none⟩) 1 [5] := by rw [hX, ← hsW]; exact lit_C .u8 W 5 [5] (by simp)
  obtain ⟨g, hg⟩ : ∃ g, g = w.heap.size := ⟨_, rfl⟩
  obtain ⟨B, hB⟩ : ∃ B, B = w.heap.size := ⟨_, rfl⟩
  have HQ := Aside0.mk (And.intro (hQ.below hbX) (And.intro hC (And.intro (reach_to hb hb.size hbX) (And.intro hg (Nat.le_trans hb.size hbX.size)))))
  have HW := Aside0.mk hW
  have HX := Aside0.mk hX
  clear hW hX hb hbX hQ hC hg hB hsW
  go_enter Try.func19, Try.ntmps19
  go_wp2_with fail
  rw [← HW.out, ← HX.out]
  refine (put_room 1 _ 1 1 [5] X w w.heap.size (fun _ => True) w.heap.size [] 0 HQ.out.1 HQ.out.2.1 (by simp) HQ.out.2.2.1 HQ.out.2.2.2.2 (Nat.le_refl _) (by simp) (fun _ _ => trivial)).mono ?_
  rintro e w2 ⟨rfl, hQ2, hB2, hs2⟩
  have HV := Aside0.mk (And.intro (show QS w.heap.size (fun _ => True) w2 w.heap.size [(1, [5])] 0 from hQ2) (And.intro hB2 (Nat.le_trans HQ.out.2.2.2.2 hs2)))
  clear hQ2 hB2 hs2
  go_wp2_with fail
  have hc := copy_in 0 1 [5] w2 w w.heap.size (fun _ => True) w.heap.size [(1, [5])] 0 HV.out.1 HV.out.2.1 HV.out.2.2 (Nat.le_refl _) (Nat.lt_add_one 0) (by decide) rfl (by decide) (by decide) (fun _ _ => trivial)
  rw [show ((0 : Nat) : Int) = 0 from rfl] at hc
  refine hc.mono ?_
  rintro e w3 ⟨rfl, hQ3, hB3, hs3⟩
  have HT := Aside0.mk (And.intro (show QS w.heap.size (fun _ => True) w3 w.heap.size [(1, [5]), (1, [5])] 0 from hQ3) hB3)
  clear hQ3 hB3 hs3
  go_wp2_with fail
  refine (len_any w3 _ _ _ _ _ HT.out.1).mono ?_
  rintro e w4 ⟨rfl, rfl⟩
  go_wp2
  go_ret
  exact ⟨rfl, HT.out.2⟩
end Go.Proofs.Ytjcihhkeehjgdaa
