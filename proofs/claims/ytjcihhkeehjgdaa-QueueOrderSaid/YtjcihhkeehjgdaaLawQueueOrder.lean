/- QueueOrder: the walk of the law. -/
import Derived.Test.YtjcihhkeehjgdaaQFirst
namespace Go.Proofs.Ytjcihhkeehjgdaa
open Go.RowKit Go.Proofs.YtjcihhkeehjgdaaW.PrintWords SumPlain
set_option linter.unusedVariables false
set_option linter.unusedSimpArgs false
attribute [local go_sem] setCell_drewN alloc_drewN
set_option maxHeartbeats 8000000 in
set_option maxRecDepth 100000 in
theorem queueOrder_all (a b : Int) (w : World) (ha : (Lit.int .i64 a).wf = true) (hb : (Lit.int .i64 b).wf = true) :
    Calls Try.prog 7 #[.int .i64 a, .int .i64 b] w fun e w' => e = .returned (.bool true) ∧ Below w.heap.size w w' := by
  have hu := Try.underlying38
  have hu2 := Try.underlying42
  have HA := Aside0.mk (And.intro ha hb)
  clear ha hb
  go_enter Try.func7, Try.ntmps7
  go_wp2_with fail
  refine (first24_any w).mono ?_
  rintro e w1 ⟨rfl, hb1⟩
  have HB1 := Aside0.mk hb1
  clear hb1
  go_wp2_with fail
  obtain ⟨q, hq, HNum⟩ := number_ex a 40 (by omega) (by omega) HA.out.1
  refine (HNum.out w1).mono ?_
  rintro e w2 ⟨rfl, rfl⟩
  clear HNum
  have hq' : q < 40 := by omega
  obtain ⟨n, hn⟩ : ∃ n, n = q + 1 := ⟨_, rfl⟩
  have hcast : ((q : Int) + 1) = (n : Int) := by omega
  have hn0 : 0 < n := by omega
  have hn40 : n ≤ 40 := by omega
  clear hn
  go_wp2_with fail
  try rw [hcast]
  obtain ⟨m, hm, HNum⟩ := number_ex b (n : Int) (by omega) (by omega) HA.out.2
  refine (HNum.out w1).mono ?_
  rintro e w2 ⟨rfl, rfl⟩
  clear HNum
  have hmn : m < n := by omega
  clear hq hcast hq'
  go_wp2_with fail
  obtain ⟨W, hW⟩ : ∃ W, W = w1.alloc (.cells #[.slice none 0 0, .int .i64 0] 38) := ⟨_, rfl⟩
  have hbW : Below w.heap.size w W := by rw [hW]; exact (HB1.out).alloc HB1.out.size _
  have hQ : QS w.heap.size (fun _ => True) W w1.heap.size [] 0 := by rw [hW]; exact QS.new _ _ _
  have hsW : w.heap.size ≤ W.heap.size := hbW.size
  obtain ⟨g, hg⟩ : ∃ g, g = w1.heap.size := ⟨_, rfl⟩
  have hgB : w.heap.size ≤ g := by rw [hg]; exact HB1.out.size
  rw [← hW, ← hg]
  rw [← hg] at hQ
  have HQ := Aside0.mk (And.intro hQ (And.intro hbW (And.intro hsW hgB)))
  clear hW hg hQ hbW hsW hgB HB1
  go_wp2_with fail
  go_loopg [7] n (fun k v7 wr => ∃ j : Nat, j + k = n ∧ v7 = .int .i64 j ∧ Aside0 (QS w.heap.size (fun _ => True) wr g (seqL 0 j) 0 ∧ Below w.heap.size w wr ∧ w.heap.size ≤ wr.heap.size))
  case atStart => exact ⟨0, by omega, rfl, ⟨HQ.out.1, HQ.out.2.1, HQ.out.2.2.1⟩⟩
  case round =>
    obtain ⟨j, hj, rfl, HR⟩ := hrel
    by_cases hlt : j < n
    · have hm8 : (j : Int) % 256 = j := by omega
      have hw8 : IntKind.u8.wrap (j : Int) = (j : Int) := by simp [IntKind.wrap, IntKind.signed, IntKind.bits]; omega
      go_wp2_with fail
      have hC : Kd.C (Kd.int .u8) (wr.alloc (.cells #[.int .u8 (j : Int)] 5)) (some ⟨wr.heap.size, 0, none⟩) 1 [(j : Int)] := lit_C .u8 wr 5 [(j : Int)] (by simp)
      have hbX := below_alloc (Below.refl wr.heap.size wr) (.cells #[.int .u8 (j : Int)] 5)
      refine (put_room j _ 1 1 [(j : Int)] _ w w.heap.size (fun _ => True) g (seqL 0 j) 0 (HR.out.1.below hbX) hC (by simp) (HR.out.2.1.alloc HR.out.2.2 _) (Nat.le_trans HR.out.2.2 hbX.size) HQ.out.2.2.2 (by rw [seqL_length]; omega) (fun _ _ => trivial)).mono ?_
      rintro e w5 ⟨rfl, hQ5, hB5, hs5⟩
      have e5 : seqL 0 (j + 1) = seqL 0 j ++ [((j : Int), [(j : Int)])] := by rw [seqL_snoc, Nat.zero_add, hm8]
      have HV := Aside0.mk (And.intro (show QS w.heap.size (fun _ => True) w5 g (seqL 0 (j + 1)) 0 by rw [e5]; exact hQ5) (And.intro hB5 (Nat.le_trans (Nat.le_trans HR.out.2.2 hbX.size) hs5)))
      clear hQ5 hB5 hs5 hC hbX e5
      go_wp2
      go_roundg (gk - 1)
      case measure => omega
      case rel => exact ⟨j + 1, by omega, by go_num, HV⟩
    · obtain rfl : n = j := by omega
      go_wp2_with fail
      have he := seqL_getD n 0 m hmn
      rw [Nat.zero_add] at he
      refine (take_in m m _ wr w w.heap.size (fun _ => True) g (seqL 0 n) 0 HR.out.1 HR.out.2.1 HR.out.2.2 HQ.out.2.2.2 (by rw [seqL_length]; exact hmn) (by rw [seqL_length]; omega) he).mono ?_
      rintro e w2 ⟨u, rfl, hRu, hQ2, hB2, hs2⟩
      rw [seqL_erase n 0 m hmn, Nat.zero_add] at hQ2
      obtain ⟨Au, cu, rfl⟩ := Kd.R_slice hRu
      have hsB := Nat.le_trans HR.out.2.2 hs2
      have hbX := below_alloc (Below.refl w2.heap.size w2) (.cells #[.int .i64 (m : Int), .slice Au [(m : Int) % 256].length cu] 42)
      have HV := Aside0.mk (And.intro (hQ2.below hbX) (And.intro (hB2.alloc hsB (.cells #[.int .i64 (m : Int), .slice Au [(m : Int) % 256].length cu] 42)) (Nat.le_trans hsB hbX.size)))
      obtain ⟨X, hX⟩ : ∃ X, X = w2.alloc (.cells #[.int .i64 (m : Int), .slice Au [(m : Int) % 256].length cu] 42) := ⟨_, rfl⟩
      rw [← hX] at HV
      have HX := Aside0.mk hX
      clear hX hbX hRu hQ2 hB2 hs2 hsB he HR
      go_wp2_with (rw [← HX.out])
      go_loopg [10] n (fun k v10 wr => ∃ j : Nat, j + k = n ∧ v10 = .int .i64 j ∧ Aside0 (QS w.heap.size (fun _ => True) wr g (remL m j k) 0 ∧ Below w.heap.size w wr ∧ w.heap.size ≤ wr.heap.size))
      case atStart => exact ⟨0, by omega, rfl, by rw [HX.out] at HV; exact HV⟩
      case round =>
        obtain ⟨j, hj, rfl, HR⟩ := hrel
        rcases (show gk = 0 ∨ ∃ i, gk = i + 1 by cases gk with | zero => exact Or.inl rfl | succ i => exact Or.inr ⟨i, rfl⟩) with rfl | ⟨i, rfl⟩
        · obtain rfl : n = j := by omega
          go_wp2_with fail
          refine (take_out 0 wr w w.heap.size (fun _ => True) g [] 0 HR.out.1 HR.out.2.1 HR.out.2.2 (Or.inr (by simp))).mono ?_
          rintro e w3 ⟨rfl, hQ3, hB3, hs3⟩
          have hs3' := Nat.le_trans HR.out.2.2 hs3
          have hbY := below_alloc (Below.refl w3.heap.size w3) (.cells #[.int .i64 0, .slice none 0 0] 42)
          have HT := Aside0.mk (And.intro (hQ3.below hbY) (And.intro (hB3.alloc hs3' (.cells #[.int .i64 0, .slice none 0 0] 42)) (Nat.le_trans hs3' hbY.size)))
          clear hQ3 hB3 hs3 hs3' hbY
          go_wp2_with fail
          refine (take_out (-1) _ w w.heap.size (fun _ => True) g [] 0 HT.out.1 HT.out.2.1 HT.out.2.2 (Or.inl (by omega))).mono ?_
          rintro e w4 ⟨rfl, hQ4, hB4, hs4⟩
          have hs4' := Nat.le_trans HT.out.2.2 hs4
          have hbZ := below_alloc (Below.refl w4.heap.size w4) (.cells #[.int .i64 0, .slice none 0 0] 42)
          have HU := Aside0.mk (And.intro (hQ4.below hbZ) (hB4.alloc hs4' (.cells #[.int .i64 0, .slice none 0 0] 42)))
          clear hQ4 hB4 hs4 hs4' hbZ
          go_wp2_with fail
          refine (len_any _ _ _ _ _ _ HU.out.1).mono ?_
          rintro e w5 ⟨rfl, rfl⟩
          go_wp2
          go_ret
          exact ⟨rfl, HU.out.2⟩
        · by_cases hjm : j = m
          · have e1 : remL m j (i + 1) = remL m (j + 1) i := by rw [remL, if_pos hjm]
            have HV2 := Aside0.mk HR.out
            rw [e1] at HV2
            subst hjm
            clear e1 HR
            go_wp2
            go_roundg i
            case measure => omega
            case rel => exact ⟨j + 1, by omega, by go_num, HV2⟩
          · have e1 : remL m j (i + 1) = ((j : Int), [(j : Int) % 256]) :: remL m (j + 1) i := by rw [remL, if_neg hjm]
            have HV2 := Aside0.mk HR.out
            rw [e1] at HV2
            have hm8 : (j : Int) % 256 = j := by omega
            have hw8 : IntKind.u8.wrap (j : Int) = (j : Int) := by simp [IntKind.wrap, IntKind.signed, IntKind.bits]; omega
            have hjd : ((j : Int) == (m : Int)) = false := beq_eq_false_iff_ne.2 (by omega)
            clear e1 HR
            go_wp2_with fail
            have ht := take_in 0 j [(j : Int) % 256] wr w w.heap.size (fun _ => True) g _ 0 HV2.out.1 HV2.out.2.1 HV2.out.2.2 HQ.out.2.2.2 (by simp) (by have := remL_len i (j + 1) m; simp; omega) rfl
            rw [show ((0 : Nat) : Int) = 0 from rfl] at ht
            refine ht.mono ?_
            rintro e w3 ⟨u3, rfl, hRu, hQ3, hB3, hs3⟩
            clear ht
            obtain ⟨A3, c3, rfl, hle3, hC3⟩ := Kd.R_reads hRu
            rw [hm8] at hC3 hRu ⊢
            simp only [List.length_cons, List.length_nil, Nat.zero_add] at hC3 hle3 ⊢
            have hs3' := Nat.le_trans HV2.out.2.2 hs3
            have hbY := below_alloc (Below.refl w3.heap.size w3) (.cells #[.int .i64 (j : Int), .slice A3 1 c3] 42)
            have hQY := QS.below (L := remL m (j + 1) i) hQ3 hbY
            have hBY := hB3.alloc hs3' (.cells #[.int .i64 (j : Int), .slice A3 1 c3] 42)
            have hCY := Kd.C_below hC3 hbY
            obtain ⟨Y, hY⟩ : ∃ Y, Y = w3.alloc (.cells #[.int .i64 (j : Int), .slice A3 1 c3] 42) := ⟨_, rfl⟩
            have hyb : Y.heap[w3.heap.size]? = some (.cells #[.int .i64 (j : Int), .slice A3 1 c3] 42 (0, 0)) := by rw [hY]; exact heap_alloc_new w3 _
            rw [← hY] at hQY hBY hCY hbY
            have hbZ := below_alloc (Below.refl Y.heap.size Y) (.cells #[.int .u8 (j : Int)] 5)
            have hCZ : Kd.C (Kd.int .u8) (Y.alloc (.cells #[.int .u8 (j : Int)] 5)) (some ⟨Y.heap.size, 0, none⟩) 1 [(j : Int)] := lit_C .u8 Y 5 [(j : Int)] (by simp)
            have hsY := Nat.le_trans hs3' hbY.size
            have HT := Aside0.mk (And.intro (hQY.below hbZ) (And.intro (hBY.alloc hsY (.cells #[.int .u8 (j : Int)] 5)) (And.intro (Nat.le_trans hsY hbZ.size) (And.intro (Kd.C_below hCY hbZ) hCZ))))
            have y0 := (blk_cell hyb 0).trans rfl
            have y1 := (blk_cell hyb 1).trans rfl
            have HX3 := Aside0.mk hY
            clear hY hyb hQY hBY hCY hbY hbZ hCZ hsY hs3' hRu hQ3 hB3 hs3 hle3 hC3 HV2
            go_wp2_with (rw [← HX3.out])
            refine (same_any A3 (some ⟨Y.heap.size, 0, none⟩) 1 1 c3 1 [(j : Int)] [(j : Int)] _ HT.out.2.2.2.1 HT.out.2.2.2.2 (by simp)).mono ?_
            rintro e w4 ⟨rfl, hd⟩
            rw [decide_eq_true rfl]
            have HU := Aside0.mk (And.intro (HT.out.1.below hd.below) (And.intro (reach_to HT.out.2.1 HT.out.2.2.1 hd.below) (Nat.le_trans HT.out.2.2.1 hd.below.size)))
            clear hd
            go_wp2
            go_roundg i
            case measure => omega
            case rel => exact ⟨j + 1, by omega, by go_num, HU⟩
end Go.Proofs.Ytjcihhkeehjgdaa
