/- QueueFull: the walk of the law. -/
import Derived.Test.YtjcihhkeehjgdaaQFlip
namespace Go.Proofs.Ytjcihhkeehjgdaa
open Go.RowKit Go.Proofs.YtjcihhkeehjgdaaW.PrintWords SumPlain
set_option linter.unusedVariables false
set_option linter.unusedSimpArgs false
attribute [local go_sem] setCell_drewN alloc_drewN
theorem remL_head (a s n : Nat) : ∃ (p b : Int) (T : List (Int × List Int)), remL a s (n + 2) = (p, [b]) :: T := by
  by_cases h : s = a
  · exact ⟨_, _, _, by rw [remL, if_pos h, remL, if_neg (by omega)]⟩
  · exact ⟨_, _, _, by rw [remL, if_neg h]⟩
theorem u8_mod (j : Nat) : IntKind.u8.wrap (j : Int) = (j : Int) % 256 := by simp [IntKind.wrap, IntKind.signed, IntKind.bits]
set_option maxHeartbeats 4000000 in
set_option maxRecDepth 100000 in
theorem queueFull_all (a b : Int) (w : World) (ha : (Lit.int .i64 a).wf = true) (hb : (Lit.int .i64 b).wf = true) :
    Calls Try.prog 8 #[.int .i64 a, .int .i64 b] w fun e w' => e = .returned (.bool true) ∧ Below w.heap.size w w' := by
  have hu := Try.underlying38
  have hu2 := Try.underlying42
  have HA := Aside0.mk (And.intro ha hb)
  clear ha hb
  go_enter Try.func8, Try.ntmps8
  go_wp2_with fail
  refine (first24_any w).mono ?_
  rintro e w1 ⟨rfl, hb1⟩
  have HB1 := Aside0.mk hb1
  clear hb1
  go_wp2_with fail
  obtain ⟨n, hn, HNum⟩ := number_ex a 6000 (by omega) (by omega) HA.out.1
  refine (HNum.out w1).mono ?_
  rintro e w2 ⟨rfl, rfl⟩
  clear HNum
  have hn6 : n < 6000 := by omega
  clear hn
  obtain ⟨W, hW⟩ : ∃ W, W = w1.alloc (.cells #[.slice none 0 0, .int .i64 0] 38) := ⟨_, rfl⟩
  have hbW : Below w.heap.size w W := by rw [hW]; exact (HB1.out).alloc HB1.out.size _
  have hQ : QS w.heap.size (fun _ => True) W w1.heap.size [] 0 := by rw [hW]; exact QS.new _ _ _
  have hsW : w.heap.size ≤ W.heap.size := hbW.size
  obtain ⟨g, hg⟩ : ∃ g, g = w1.heap.size := ⟨_, rfl⟩
  have hgB : w.heap.size ≤ g := by rw [hg]; exact HB1.out.size
  rw [← hg] at hQ
  have HQ := Aside0.mk (And.intro hQ (And.intro hbW (And.intro hsW hgB)))
  have HW := Aside0.mk (And.intro hW hg)
  clear hW hg hQ hbW hsW hgB HB1
  go_wp2_with (rw [← HW.out.1, ← HW.out.2])
  go_loopg [7] n (fun k v7 wr => ∃ j : Nat, j + k = n ∧ v7 = .int .i64 j ∧ Aside0 (QS w.heap.size (fun _ => True) wr g (seqL 0 (min j 4096)) ((j - 4096 : Nat) : Int) ∧ Below w.heap.size w wr ∧ w.heap.size ≤ wr.heap.size))
  case atStart => exact ⟨0, by omega, rfl, ⟨HQ.out.1, HQ.out.2.1, HQ.out.2.2.1⟩⟩
  case round =>
    obtain ⟨j, hj, rfl, HR⟩ := hrel
    by_cases hlt : j < n
    · have hw8 := u8_mod j
      go_wp2_with fail
      have hC : Kd.C (Kd.int .u8) (wr.alloc (.cells #[.int .u8 ((j : Int) % 256)] 5)) (some ⟨wr.heap.size, 0, none⟩) 1 [(j : Int) % 256] := lit_C .u8 wr 5 [(j : Int) % 256] (by simp)
      have hbX := below_alloc (Below.refl wr.heap.size wr) (.cells #[.int .u8 ((j : Int) % 256)] 5)
      by_cases h4 : j < 4096
      · have hd4 : decide ((j : Int) < 4096) = true := decide_eq_true (by omega)
        have e1 : min j 4096 = j := Nat.min_eq_left (by omega)
        have e2 : min (j + 1) 4096 = j + 1 := Nat.min_eq_left (by omega)
        have e3 : (j - 4096 : Nat) = j + 1 - 4096 := by omega
        refine (put_room j _ 1 1 [(j : Int) % 256] _ w w.heap.size (fun _ => True) g (seqL 0 (min j 4096)) ((j - 4096 : Nat) : Int) (HR.out.1.below hbX) hC (by simp) (HR.out.2.1.alloc HR.out.2.2 _) (Nat.le_trans HR.out.2.2 hbX.size) HQ.out.2.2.2 (by rw [seqL_length]; omega) (fun _ _ => trivial)).mono ?_
        rintro e w5 ⟨rfl, hQ5, hB5, hs5⟩
        have HV := Aside0.mk (And.intro (show QS w.heap.size (fun _ => True) w5 g (seqL 0 (min (j + 1) 4096)) ((j + 1 - 4096 : Nat) : Int) by rw [e2, seqL_snoc, Nat.zero_add, ← e3]; rw [e1] at hQ5; exact hQ5) (And.intro hB5 (Nat.le_trans (Nat.le_trans HR.out.2.2 hbX.size) hs5)))
        clear hQ5 hB5 hs5 hC hbX e1 e2 e3 HR
        go_wp2
        go_roundg (gk - 1)
        case measure => omega
        case rel => exact ⟨j + 1, by omega, by go_num, HV⟩
      · have hd4 : decide ((j : Int) < 4096) = false := decide_eq_false (by omega)
        have e1 : min j 4096 = 4096 := Nat.min_eq_right (by omega)
        have e2 : min (j + 1) 4096 = 4096 := Nat.min_eq_right (by omega)
        have e3 : ((j - 4096 : Nat) : Int) + 1 = ((j + 1 - 4096 : Nat) : Int) := by omega
        refine (put_full j _ 1 1 _ w w.heap.size (fun _ => True) g (seqL 0 (min j 4096)) ((j - 4096 : Nat) : Int) (HR.out.1.below hbX) (HR.out.2.1.alloc HR.out.2.2 _) HQ.out.2.2.2 (by rw [seqL_length]; omega) (by omega) (by omega)).mono ?_
        rintro e w5 ⟨rfl, hQ5, hB5, hs5⟩
        have HV := Aside0.mk (And.intro (show QS w.heap.size (fun _ => True) w5 g (seqL 0 (min (j + 1) 4096)) ((j + 1 - 4096 : Nat) : Int) by rw [e2, ← e3]; rw [e1] at hQ5; exact hQ5) (And.intro hB5 (Nat.le_trans (Nat.le_trans HR.out.2.2 hbX.size) hs5)))
        clear hQ5 hB5 hs5 hC hbX e1 e2 e3 HR
        go_wp2
        go_roundg (gk - 1)
        case measure => omega
        case rel => exact ⟨j + 1, by omega, by go_num, HV⟩
    · obtain rfl : n = j := by omega
      obtain ⟨M, hM⟩ : ∃ M, M = min n 4096 := ⟨_, rfl⟩
      rw [← hM] at HR
      go_wp2_with fail
      by_cases hle : n ≤ 4096
      · have hMn : (M : Int) = (n : Int) := by omega
        have hdz : ((n - 4096 : Nat) : Int) = 0 := by omega
        rw [hdz] at HR
        clear hdz hM
        refine (len_any _ _ _ _ _ _ HR.out.1).mono ?_
        rintro e w5 ⟨rfl, rfl⟩
        rw [seqL_length]
        go_wp2_with fail
        refine (dropped_any _ _ _ _ _ _ HR.out.1).mono ?_
        rintro e w5 ⟨rfl, rfl⟩
        by_cases hn0 : n = 0
        · subst hn0
          obtain rfl : M = 0 := by omega
          clear hMn hle
          go_wp2_with fail
          refine (take_out 0 wr w w.heap.size (fun _ => True) g [] _ HR.out.1 HR.out.2.1 HR.out.2.2 (Or.inr (by simp))).mono ?_
          rintro e w3 ⟨rfl, hQ3, hB3, hs3⟩
          have hfin := hB3.alloc (Nat.le_trans HR.out.2.2 hs3) (.cells #[.int .i64 0, .slice none 0 0] 42)
          clear hQ3 hB3 hs3
          go_wp2
          go_ret
          exact ⟨rfl, hfin⟩
        have hMp : 0 < M := by omega
        have hn0' : ((n : Int) == 0) = false := beq_eq_false_iff_ne.2 (by omega)
        go_wp2_with fail
        obtain ⟨q, hq, HNum⟩ := number_ex b (n : Int) (by omega) (by omega) HA.out.2
        refine (HNum.out wr).mono ?_
        rintro e w5 ⟨rfl, rfl⟩
        clear HNum
        have hqM : q < M := by omega
        go_wp2_with fail
        have he := seqL_getD M 0 q hqM
        rw [Nat.zero_add] at he
        refine (take_in q q _ wr w w.heap.size (fun _ => True) g (seqL 0 M) _ HR.out.1 HR.out.2.1 HR.out.2.2 HQ.out.2.2.2 (by rw [seqL_length]; exact hqM) (by rw [seqL_length]; omega) he).mono ?_
        rintro e w6 ⟨u, rfl, hRu, hQ6, hB6, hs6⟩
        have hlen : ((seqL 0 M).eraseIdx q).length = M - 1 := by rw [List.length_eraseIdx_of_lt (by rw [seqL_length]; exact hqM), seqL_length]
        rw [seqL_erase M 0 q hqM, Nat.zero_add] at hQ6 hlen
        obtain ⟨Au, cu, rfl⟩ := Kd.R_slice hRu
        have hsB := Nat.le_trans HR.out.2.2 hs6
        have hbX := below_alloc (Below.refl w6.heap.size w6) (.cells #[.int .i64 (q : Int), .slice Au 1 cu] 42)
        obtain ⟨X, hX⟩ : ∃ X, X = w6.alloc (.cells #[.int .i64 (q : Int), .slice Au 1 cu] 42) := ⟨_, rfl⟩
        have hxi : X.heap[w6.heap.size]? = some (.cells #[.int .i64 (q : Int), .slice Au 1 cu] 42 (0, 0)) := by rw [hX]; exact heap_alloc_new w6 _
        have hBX := hB6.alloc hsB (.cells #[.int .i64 (q : Int), .slice Au 1 cu] 42)
        rw [← hX] at hbX hBX
        have HV := Aside0.mk (And.intro (hQ6.below hbX) (And.intro hBX (And.intro (Nat.le_trans hsB hbX.size) (And.intro hlen hxi))))
        have HX := Aside0.mk hX
        obtain ⟨bx, hbx⟩ : ∃ bx, bx = w6.heap.size := ⟨_, rfl⟩
        have Hbx := Aside0.mk hbx
        rw [← hbx] at hxi
        have x0 := (blk_cell hxi 0).trans rfl
        clear hX hxi hbX hBX hRu hQ6 hB6 hs6 hsB he HR hlen hbx
        go_wp2_with (first | rw [← HX.out, ← Hbx.out] | rw [← HX.out])
        refine (len_any X _ _ _ _ _ HV.out.1).mono ?_
        rintro e w7 ⟨rfl, rfl⟩
        rw [HV.out.2.2.2.1]
        by_cases hM1 : M = 1
        · obtain rfl : q = 0 := by omega
          have hc0 : ((M - 1 : Nat) : Int) = 0 := by omega
          have hL0 : remL 0 0 M = [] := List.eq_nil_of_length_eq_zero (by rw [HV.out.2.2.2.1]; omega)
          have HLL := Aside0.mk hL0
          clear hL0
          rw [hc0]
          go_wp2_with fail
          refine (copy_out 0 X w w.heap.size (fun _ => True) g (remL 0 0 M) _ HV.out.1 (Or.inr (by rw [HLL.out]; simp))).mono ?_
          rintro e w8 ⟨rfl, hb8⟩
          have hfin := reach_to HV.out.2.1 HV.out.2.2.1 hb8
          clear hb8
          go_wp2
          go_ret
          exact ⟨rfl, hfin⟩
        · obtain ⟨p, bb, T, hT⟩ := remL_head q 0 (M - 2)
          rw [show M - 2 + 2 = M by omega] at hT
          have HTT := Aside0.mk hT
          clear hT
          have hc1 : (((M - 1 : Nat) : Int) == 0) = false := beq_eq_false_iff_ne.2 (by omega)
          have hc2 : ((M - 1 : Nat) : Int) = (n : Int) - 1 := by omega
          go_wp2_with fail
          refine (len_any X _ _ _ _ _ HV.out.1).mono ?_
          rintro e w7 ⟨rfl, rfl⟩
          rw [HV.out.2.2.2.1]
          go_wp2_with fail
          have hcp := copy_in 0 p [bb] X w w.heap.size (fun _ => True) g (remL q 0 M) _ HV.out.1 HV.out.2.1 HV.out.2.2.1 HQ.out.2.2.2 (by rw [HV.out.2.2.2.1]; omega) (by rw [HV.out.2.2.2.1]; omega) (by rw [HTT.out]; rfl) (by simp) (by rw [HV.out.2.2.2.1]; omega) (fun _ _ => trivial)
          rw [show ((0 : Nat) : Int) = 0 from rfl] at hcp
          refine hcp.mono ?_
          rintro e w8 ⟨rfl, hQ8, hB8, hs8⟩
          clear hcp
          have hl8 : (remL q 0 M ++ [(p, [bb])]).length = M := by rw [List.length_append, HV.out.2.2.2.1]; simp; omega
          have hg8 : (remL q 0 M ++ [(p, [bb])]).getD 0 (0, []) = (p, [bb]) := by rw [HTT.out]; rfl
          have H8 := Aside0.mk (And.intro hQ8 (And.intro hB8 (And.intro (Nat.le_trans HV.out.2.2.1 hs8) (And.intro hl8 hg8))))
          clear hQ8 hB8 hs8 hl8 hg8
          go_wp2_with fail
          have hfl := flip_in 0 7 p [bb] w8 w w.heap.size (fun _ => True) g _ _ H8.out.1 H8.out.2.1 H8.out.2.2.1 (by rw [H8.out.2.2.2.1]; omega) (by rw [H8.out.2.2.2.1]; omega) H8.out.2.2.2.2 (by simp) (by omega) (by simp)
          rw [show ((0 : Nat) : Int) = 0 from rfl, show ((7 : Nat) : Int) = 7 from rfl] at hfl
          refine hfl.mono ?_
          rintro e w9 ⟨rfl, hQ9, hB9, hs9⟩
          clear hfl
          generalize hL9 : (remL q 0 M ++ [(p, [bb])]).set 0 (p, [bb].set (7 / 8) (flip ([bb].getD (7 / 8) 0) (7 - 7 % 8))) = L9 at hQ9
          have hl9 : L9.length = M := by rw [← hL9, List.length_set]; exact H8.out.2.2.2.1
          have hg9 : L9.getD 0 (0, []) = (p, [flip bb 0]) := by rw [← hL9, HTT.out]; rfl
          have H9 := Aside0.mk (And.intro hQ9 (And.intro hB9 (And.intro hl9 hg9)))
          clear hQ9 hB9 hs9 hL9 hl9 hg9
          go_wp2_with fail
          have hfp := flip_past 0 8 p [flip bb 0] w9 w.heap.size (fun _ => True) g L9 _ H9.out.1 (by rw [H9.out.2.2.1]; omega) (by rw [H9.out.2.2.1]; omega) H9.out.2.2.2 (by simp) (by omega)
          rw [show ((0 : Nat) : Int) = 0 from rfl, show ((8 : Nat) : Int) = 8 from rfl] at hfp
          refine hfp.mono ?_
          rintro e wa ⟨rfl, rfl⟩
          clear hfp
          go_wp2
          go_ret
          exact ⟨rfl, H9.out.2.1⟩
      · have hMn : (M : Int) = 4096 := by omega
        have hdz : ((n - 4096 : Nat) : Int) = (n : Int) - 4096 := by omega
        rw [hdz] at HR
        clear hdz hM
        refine (len_any _ _ _ _ _ _ HR.out.1).mono ?_
        rintro e w5 ⟨rfl, rfl⟩
        rw [seqL_length]
        go_wp2_with fail
        refine (dropped_any _ _ _ _ _ _ HR.out.1).mono ?_
        rintro e w5 ⟨rfl, rfl⟩
        have hMp : 0 < M := by omega
        have hn0' : ((n : Int) == 0) = false := beq_eq_false_iff_ne.2 (by omega)
        go_wp2_with fail
        obtain ⟨q, hq, HNum⟩ := number_ex b 4096 (by omega) (by omega) HA.out.2
        refine (HNum.out wr).mono ?_
        rintro e w5 ⟨rfl, rfl⟩
        clear HNum
        have hqM : q < M := by omega
        go_wp2_with fail
        have he := seqL_getD M 0 q hqM
        rw [Nat.zero_add] at he
        refine (take_in q q _ wr w w.heap.size (fun _ => True) g (seqL 0 M) _ HR.out.1 HR.out.2.1 HR.out.2.2 HQ.out.2.2.2 (by rw [seqL_length]; exact hqM) (by rw [seqL_length]; omega) he).mono ?_
        rintro e w6 ⟨u, rfl, hRu, hQ6, hB6, hs6⟩
        have hlen : ((seqL 0 M).eraseIdx q).length = M - 1 := by rw [List.length_eraseIdx_of_lt (by rw [seqL_length]; exact hqM), seqL_length]
        rw [seqL_erase M 0 q hqM, Nat.zero_add] at hQ6 hlen
        obtain ⟨Au, cu, rfl⟩ := Kd.R_slice hRu
        have hsB := Nat.le_trans HR.out.2.2 hs6
        have hbX := below_alloc (Below.refl w6.heap.size w6) (.cells #[.int .i64 (q : Int), .slice Au 1 cu] 42)
        obtain ⟨X, hX⟩ : ∃ X, X = w6.alloc (.cells #[.int .i64 (q : Int), .slice Au 1 cu] 42) := ⟨_, rfl⟩
        have hxi : X.heap[w6.heap.size]? = some (.cells #[.int .i64 (q : Int), .slice Au 1 cu] 42 (0, 0)) := by rw [hX]; exact heap_alloc_new w6 _
        have hBX := hB6.alloc hsB (.cells #[.int .i64 (q : Int), .slice Au 1 cu] 42)
        rw [← hX] at hbX hBX
        have HV := Aside0.mk (And.intro (hQ6.below hbX) (And.intro hBX (And.intro (Nat.le_trans hsB hbX.size) (And.intro hlen hxi))))
        have HX := Aside0.mk hX
        obtain ⟨bx, hbx⟩ : ∃ bx, bx = w6.heap.size := ⟨_, rfl⟩
        have Hbx := Aside0.mk hbx
        rw [← hbx] at hxi
        have x0 := (blk_cell hxi 0).trans rfl
        clear hX hxi hbX hBX hRu hQ6 hB6 hs6 hsB he HR hlen hbx
        go_wp2_with (first | rw [← HX.out, ← Hbx.out] | rw [← HX.out])
        refine (len_any X _ _ _ _ _ HV.out.1).mono ?_
        rintro e w7 ⟨rfl, rfl⟩
        rw [HV.out.2.2.2.1]
        by_cases hM1 : M = 1
        · exfalso; omega
        · obtain ⟨p, bb, T, hT⟩ := remL_head q 0 (M - 2)
          rw [show M - 2 + 2 = M by omega] at hT
          have HTT := Aside0.mk hT
          clear hT
          have hc1 : (((M - 1 : Nat) : Int) == 0) = false := beq_eq_false_iff_ne.2 (by omega)
          have hc2 : ((M - 1 : Nat) : Int) = 4096 - 1 := by omega
          go_wp2_with fail
          refine (len_any X _ _ _ _ _ HV.out.1).mono ?_
          rintro e w7 ⟨rfl, rfl⟩
          rw [HV.out.2.2.2.1]
          go_wp2_with fail
          have hcp := copy_in 0 p [bb] X w w.heap.size (fun _ => True) g (remL q 0 M) _ HV.out.1 HV.out.2.1 HV.out.2.2.1 HQ.out.2.2.2 (by rw [HV.out.2.2.2.1]; omega) (by rw [HV.out.2.2.2.1]; omega) (by rw [HTT.out]; rfl) (by simp) (by rw [HV.out.2.2.2.1]; omega) (fun _ _ => trivial)
          rw [show ((0 : Nat) : Int) = 0 from rfl] at hcp
          refine hcp.mono ?_
          rintro e w8 ⟨rfl, hQ8, hB8, hs8⟩
          clear hcp
          have hl8 : (remL q 0 M ++ [(p, [bb])]).length = M := by rw [List.length_append, HV.out.2.2.2.1]; simp; omega
          have hg8 : (remL q 0 M ++ [(p, [bb])]).getD 0 (0, []) = (p, [bb]) := by rw [HTT.out]; rfl
          have H8 := Aside0.mk (And.intro hQ8 (And.intro hB8 (And.intro (Nat.le_trans HV.out.2.2.1 hs8) (And.intro hl8 hg8))))
          clear hQ8 hB8 hs8 hl8 hg8
          go_wp2_with fail
          have hfl := flip_in 0 7 p [bb] w8 w w.heap.size (fun _ => True) g _ _ H8.out.1 H8.out.2.1 H8.out.2.2.1 (by rw [H8.out.2.2.2.1]; omega) (by rw [H8.out.2.2.2.1]; omega) H8.out.2.2.2.2 (by simp) (by omega) (by simp)
          rw [show ((0 : Nat) : Int) = 0 from rfl, show ((7 : Nat) : Int) = 7 from rfl] at hfl
          refine hfl.mono ?_
          rintro e w9 ⟨rfl, hQ9, hB9, hs9⟩
          clear hfl
          generalize hL9 : (remL q 0 M ++ [(p, [bb])]).set 0 (p, [bb].set (7 / 8) (flip ([bb].getD (7 / 8) 0) (7 - 7 % 8))) = L9 at hQ9
          have hl9 : L9.length = M := by rw [← hL9, List.length_set]; exact H8.out.2.2.2.1
          have hg9 : L9.getD 0 (0, []) = (p, [flip bb 0]) := by rw [← hL9, HTT.out]; rfl
          have H9 := Aside0.mk (And.intro hQ9 (And.intro hB9 (And.intro hl9 hg9)))
          clear hQ9 hB9 hs9 hL9 hl9 hg9
          go_wp2_with fail
          have hfp := flip_past 0 8 p [flip bb 0] w9 w.heap.size (fun _ => True) g L9 _ H9.out.1 (by rw [H9.out.2.2.1]; omega) (by rw [H9.out.2.2.1]; omega) H9.out.2.2.2 (by simp) (by omega)
          rw [show ((0 : Nat) : Int) = 0 from rfl, show ((8 : Nat) : Int) = 8 from rfl] at hfp
          refine hfp.mono ?_
          rintro e wa ⟨rfl, rfl⟩
          clear hfp
          go_wp2
          go_ret
          exact ⟨rfl, H9.out.2.1⟩
end Go.Proofs.Ytjcihhkeehjgdaa
