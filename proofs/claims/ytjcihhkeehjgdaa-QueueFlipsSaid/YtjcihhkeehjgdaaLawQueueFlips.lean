/- QueueFlips: the walk of the law. -/
import Derived.Test.YtjcihhkeehjgdaaQAll
namespace Go.Proofs.Ytjcihhkeehjgdaa
open Go.RowKit Go.Proofs.YtjcihhkeehjgdaaW.PrintWords SumPlain
set_option linter.unusedVariables false
set_option linter.unusedSimpArgs false
attribute [local go_sem] setCell_drewN alloc_drewN
theorem QS.far {base : Nat} {ok : Nat → Prop} {w : World} {g : Nat} {L : List (Int × List Int)} {d : Int} (h : QS base ok w g L d) (b i : Nat) (u : Value) (hgb : g ≠ b) (hok : ∀ k, ok k → k ≠ b) : QS base ok (w.setCell ⟨b, i, none⟩ u) g L d := by
  obtain ⟨v, hg, hR⟩ := h
  exact ⟨v, blk_far hg (p := ⟨b, i, none⟩) hgb u, Kd.S_far hR (p := ⟨b, i, none⟩) hok u⟩
/-- How many of the bits ahead of m were turned. -/
def cnt (q m : Nat) : Int := if q < m then 1 else 0
theorem cnt_hit (q : Nat) : cnt q (q + 1) = cnt q q + 1 := by unfold cnt; rw [if_pos (by omega), if_neg (by omega)]; rfl
theorem cnt_miss (q m : Nat) (h : m ≠ q) : cnt q (m + 1) = cnt q m := by
  unfold cnt
  by_cases hq : q < m
  · rw [if_pos hq, if_pos (by omega)]
  · rw [if_neg hq, if_neg (by omega)]
theorem xor_hit : ∀ u : Fin 256, ∀ t : Fin 8, ∀ s : Fin 8, (bits BinOp.and IntKind.u8 (bits BinOp.xor IntKind.u8 (flip (u.val : Int) t.val) (u.val : Int) / 2 ^ s.val) 1 == 1) = decide (s = t) := by decide +kernel
theorem xor_same : ∀ u : Fin 256, ∀ s : Fin 8, (bits BinOp.and IntKind.u8 (bits BinOp.xor IntKind.u8 (u.val : Int) (u.val : Int) / 2 ^ s.val) 1 == 1) = false := by decide +kernel
theorem turned_at (l : List Int) (hby : Byt l) (q i kk : Nat) (hi : i < l.length) (hk : kk < 8) (hq : q / 8 < l.length) :
    (bits BinOp.and IntKind.u8 (bits BinOp.xor IntKind.u8 ((l.set (q / 8) (flip (l.getD (q / 8) 0) (7 - q % 8))).getD i 0) (l.getD i 0) / 2 ^ (7 - kk)) 1 == 1) = decide (8 * i + kk = q) := by
  obtain ⟨h0, h1⟩ := byt_getD hby i
  obtain ⟨u, hu⟩ := Int.eq_ofNat_of_zero_le h0
  by_cases hiq : q / 8 = i
  · have e : (l.set (q / 8) (flip (l.getD (q / 8) 0) (7 - q % 8))).getD i 0 = flip (l.getD i 0) (7 - q % 8) := by
      rw [hiq, List.getD_eq_getElem?_getD, List.getElem?_set_self hi]
      rfl
    rw [e, hu]
    have := xor_hit ⟨u, by omega⟩ ⟨7 - q % 8, by omega⟩ ⟨7 - kk, by omega⟩
    refine this.trans ?_
    rw [decide_eq_decide]
    constructor
    · intro h
      have := congrArg Fin.val h
      simp only at this
      omega
    · intro h
      apply Fin.ext
      simp only
      omega
  · have e : (l.set (q / 8) (flip (l.getD (q / 8) 0) (7 - q % 8))).getD i 0 = l.getD i 0 := by
      rw [List.getD_eq_getElem?_getD, List.getElem?_set_ne hiq, ← List.getD_eq_getElem?_getD]
    rw [e, hu]
    have := xor_same ⟨u, by omega⟩ ⟨7 - kk, by omega⟩
    refine this.trans ?_
    symm
    rw [decide_eq_false_iff_not]
    omega
theorem flips_short (A : Option Addr) (n c : Nat) (b : Int) (w : World) (hn : n = 0 ∨ 30 < n) (hmx : n ≤ 9223372036854775807) :
    Calls Try.prog 9 #[.slice A n c, .int .i64 b] w fun e w' => e = .returned (.bool true) ∧ Below w.heap.size w w' := by
  rcases hn with hn | hn
  · subst hn
    go_enter Try.func9, Try.ntmps9
    go_wp2_with fail
    refine (first24_any w).mono ?_
    rintro e w1 ⟨rfl, hb1⟩
    go_wp2
    go_ret
    exact ⟨rfl, hb1⟩
  · have hn0 : ((n : Int) == 0) = false := beq_eq_false_iff_ne.2 (by omega)
    go_enter Try.func9, Try.ntmps9
    go_wp2_with fail
    refine (first24_any w).mono ?_
    rintro e w1 ⟨rfl, hb1⟩
    go_wp2
    go_ret
    exact ⟨rfl, hb1⟩
set_option maxHeartbeats 8000000 in
set_option maxRecDepth 100000 in
theorem flips_good (A : Option Addr) (n c : Nat) (l : List Int) (b : Int) (w : World) (hC : Kd.C (Kd.int .u8) w A n l) (hby : Byt l) (hbw : (Lit.int .i64 b).wf = true) (hn0 : 0 < n) (hn30 : n ≤ 30) :
    Calls Try.prog 9 #[.slice A n c, .int .i64 b] w fun e w' => e = .returned (.bool true) ∧ Below w.heap.size w w' := by
  have hu := Try.underlying38
  have hu2 := Try.underlying42
  have hnz : ((n : Int) == 0) = false := beq_eq_false_iff_ne.2 (by omega)
  have hln := hC.1
  have HA := Aside0.mk (And.intro hC (And.intro hby (And.intro hbw hln)))
  clear hC hby hbw hln
  go_enter Try.func9, Try.ntmps9
  go_wp2_with fail
  refine (first24_any w).mono ?_
  rintro e w1 ⟨rfl, hb1⟩
  have HB1 := Aside0.mk hb1
  clear hb1
  go_wp2_with fail
  obtain ⟨q, hq, HNum⟩ := number_ex b (8 * (n : Int)) (by omega) (by omega) HA.out.2.2.1
  refine (HNum.out w1).mono ?_
  rintro e w2 ⟨rfl, rfl⟩
  clear HNum
  have hq8 : q < 8 * n := by omega
  clear hq
  obtain ⟨W, hW⟩ : ∃ W, W = w1.alloc (.cells #[.slice none 0 0, .int .i64 0] 38) := ⟨_, rfl⟩
  have hbW : Below w.heap.size w W := by rw [hW]; exact (HB1.out).alloc HB1.out.size _
  have hQ : ∀ ok, QS w.heap.size ok W w1.heap.size [] 0 := fun ok => by rw [hW]; exact QS.new _ _ _
  have hWs : w1.heap.size < W.heap.size := by rw [hW]; simp
  obtain ⟨g, hg⟩ : ∃ g, g = w1.heap.size := ⟨_, rfl⟩
  have hgB : w.heap.size ≤ g := by rw [hg]; exact HB1.out.size
  rw [← hg] at hQ hWs
  have HQ := Aside0.mk (And.intro hQ (And.intro hbW (And.intro hbW.size (And.intro hgB hWs))))
  have HW := Aside0.mk (And.intro hW hg)
  clear hW hg hQ hbW hgB hWs HB1
  go_wp2_with (rw [← HW.out.1, ← HW.out.2])
  refine (bytes_any A n c l W (Kd.C_below HA.out.1 HQ.out.2.1) (by rw [HA.out.2.2.2]; omega)).mono ?_
  rintro e w2 ⟨v2, rfl, hR2, hb2⟩
  obtain ⟨gin, cin, rfl, hgin⟩ := R_form hR2 (by rw [HA.out.2.2.2]; exact hn0)
  rw [HA.out.2.2.2] at hR2 ⊢
  have hginlt : gin < w2.heap.size := Kd.R_lt hR2 gin rfl
  obtain ⟨cs2, hcs2⟩ := Kd.R_typed hR2 gin rfl
  obtain ⟨r0, f0⟩ := R_nat hR2 HA.out.2.2.2 0 hn0
  have hgg : g ≠ gin := by have := HQ.out.2.2.2.2; omega
  have hB2 := reach_to HQ.out.2.1 HQ.out.2.2.1 hb2
  have HI := Aside0.mk (And.intro hcs2 (And.intro r0 (And.intro hginlt (And.intro hgin hgg))))
  have HP := Aside0.mk (And.intro ((HQ.out.1 (fun k => k ≠ gin)).below hb2) (And.intro (R_C hR2).2 (And.intro hB2 hB2.size)))
  clear hR2 hb2 hB2 hcs2 r0 f0 hgg hgin hginlt
  go_wp2_with fail
  refine (put_room_fr 1 (some ⟨gin, 0, none⟩) n cin l w2 w w.heap.size (fun k => k ≠ gin) g [] 0 HP.out.1 HP.out.2.1 (by rw [HA.out.2.2.2]; omega) HP.out.2.2.1 HP.out.2.2.2 HQ.out.2.2.2.1 (by simp) (fun k hk => by have := HI.out.2.2.1; omega)).mono ?_
  rintro e w3 ⟨rfl, hQ3, hB3, hs3, hf3⟩
  have hin3 := (hf3 gin HI.out.2.2.1 HI.out.2.2.2.2.symm (fun h => h rfl)).trans HI.out.1
  have H3 := Aside0.mk (And.intro (show QS w.heap.size (fun k => k ≠ gin) w3 g [(1, l)] 0 from hQ3) (And.intro hB3 (And.intro hs3 hin3)))
  clear hQ3 hB3 hs3 hf3 hin3
  go_wp2_with fail
  have hcp := copy_in_fr 0 1 l w3 w w.heap.size (fun k => k ≠ gin) g [(1, l)] 0 H3.out.1 H3.out.2.1 (Nat.le_trans HP.out.2.2.2 H3.out.2.2.1) HQ.out.2.2.2.1 (by simp) (by simp) rfl (by rw [HA.out.2.2.2]; omega) (by simp) (fun k hk => by have := HI.out.2.2.1; have := H3.out.2.2.1; omega)
  rw [show ((0 : Nat) : Int) = 0 from rfl] at hcp
  refine hcp.mono ?_
  clear hcp
  rintro e w4 ⟨rfl, hQ4, hB4, hs4, hf4⟩
  have hin4 := (hf4 gin (blk_lt H3.out.2.2.2) HI.out.2.2.2.2.symm (fun h => h rfl)).trans H3.out.2.2.2
  have r4 := (blk_cell hin4 0).trans ((blk_cell HI.out.1 0).symm.trans HI.out.2.1)
  have f4 := blk_frozen hin4
  have H4 := Aside0.mk (And.intro (show QS w.heap.size (fun k => k ≠ gin) w4 g [(1, l), (1, l)] 0 from hQ4) (And.intro hB4 hB4.size))
  clear hQ4 hB4 hs4 hf4 hin4
  generalize l.getD 0 0 = y0 at *
  go_wp2_with fail
  obtain ⟨y5, hy5⟩ : ∃ y5, y5 = (y0 + 1) % 256 := ⟨_, rfl⟩
  rw [← hy5]
  clear hy5 r4 f4
  have hQ5 := H4.out.1.far gin 0 (.int .u8 y5) HI.out.2.2.2.2 (fun k hk => hk)
  have hB5 := Below.setCell H4.out.2.1 (p := ⟨gin, 0, none⟩) (Nat.le_trans HQ.out.2.2.1 HI.out.2.2.2.1) (.int .u8 y5)
  generalize w4.setCell ⟨gin, 0, none⟩ (.int .u8 y5) = W5 at *
  have H5 := Aside0.mk (And.intro hQ5 (And.intro hB5 hB5.size))
  clear hQ5 hB5 H4
  obtain ⟨l2, hl2⟩ : ∃ l2, l2 = l.set (q / 8) (flip (l.getD (q / 8) 0) (7 - q % 8)) := ⟨_, rfl⟩
  have hfl := flip_in 1 q 1 l W5 w w.heap.size (fun k => k ≠ gin) g [(1, l), (1, l)] 0 H5.out.1 H5.out.2.1 H5.out.2.2 (by simp) (by simp) rfl (by rw [HA.out.2.2.2]; omega) (by omega) (by rw [HA.out.2.2.2]; omega)
  rw [show ((1 : Nat) : Int) = 1 from rfl, ← hl2] at hfl
  refine hfl.mono ?_
  clear hfl
  rintro e w6 ⟨rfl, hQ6, hB6, hs6⟩
  have hlen2 : l2.length = n := by rw [hl2, List.length_set]; exact HA.out.2.2.2
  have HL2 := Aside0.mk (And.intro hl2 hlen2)
  have H6 := Aside0.mk (And.intro (show QS w.heap.size (fun k => k ≠ gin) w6 g [(1, l), (1, l2)] 0 from hQ6) (And.intro hB6 hB6.size))
  clear hQ6 hB6 hs6 hl2 hlen2 H5
  go_wp2_with fail
  refine (all_any w6 w.heap.size (fun k => k ≠ gin) g [(1, l), (1, l2)] 0 H6.out.1 (by simp) (by intro x hx; simp at hx; rcases hx with rfl | rfl <;> first | (show l.length ≤ 1000000; rw [HA.out.2.2.2]; omega) | (show l2.length ≤ 1000000; rw [HL2.out.2]; omega))).mono ?_
  rintro e w7 ⟨v7, rfl, hS7, hb7⟩
  obtain ⟨h7, c7, rfl, hh7, _⟩ := Kd.S_form hS7 (by simp)
  have hle7 := (Kd.S_reads' hS7).2.1
  obtain ⟨ca, _, ⟨xa, xb, rfl, hxa, ua, rfl, hRa⟩, hcca, _⟩ := Kd.R_elem (Kd.S_R hS7) (0, []) 0 (by omega) (by simp)
  obtain ⟨cb, _, ⟨xc, xd, rfl, hxc, ub, rfl, hRb⟩, hccb, _⟩ := Kd.R_elem (Kd.S_R hS7) (0, []) 1 (by omega) (by simp)
  have hxa' : xa = [.int .i64 1] := hxa
  have hxc' : xc = [.int .i64 1] := hxc
  subst hxa' hxc'
  have ea : w7.cell? ⟨h7, 1, none⟩ = some ua := hcca 1 ua rfl
  have eb : w7.cell? ⟨h7, 3, none⟩ = some ub := hccb 1 ub rfl
  obtain ⟨Aa, cca, rfl, hlea, hCa⟩ := Kd.R_reads (xs := l) hRa
  obtain ⟨Ab, ccb, rfl, hleb, hCb⟩ := Kd.R_reads (xs := l2) hRb
  rw [HA.out.2.2.2] at ea hCa hlea
  rw [HL2.out.2] at eb hCb hleb
  have H7 := Aside0.mk (And.intro (H6.out.1.below hb7) (And.intro (reach_to H6.out.2.1 H6.out.2.2 hb7) (And.intro hCa hCb)))
  simp only [List.length_cons, List.length_nil, Nat.zero_add, Nat.reduceAdd] at hle7 ⊢
  clear hS7 hb7 hcca hccb hxa hxc hRa hRb hCa hCb H6
  go_wp2_with fail
  refine (same_any Aa A n n cca c l l _ H7.out.2.2.1 (Kd.C_below HA.out.1 H7.out.2.1) (by rw [HA.out.2.2.2]; omega)).mono ?_
  rintro e w8 ⟨rfl, ⟨m8, rfl⟩⟩
  rw [decide_eq_true rfl]
  have hb8 : Below w7.heap.size w7 (w7.drewN m8) := pw_below_drewN (Below.refl _ _) _
  obtain ⟨W8, hW8⟩ : ∃ W8, W8 = w7.drewN m8 := ⟨_, rfl⟩
  rw [← hW8] at hb8 ⊢
  have eb := pw_cell_below hb8 eb
  have H8 := Aside0.mk (And.intro (H7.out.1.below hb8) (And.intro (reach_to H7.out.2.1 H7.out.2.1.size hb8) (Kd.C_below H7.out.2.2.2 hb8)))
  clear hW8 ea hb8 H7
  have HCA := Aside0.mk (Kd.C_below HA.out.1 H8.out.2.1)
  go_wp2_with fail
  go_loopg [9, 10] n (fun k v9 v10 wr => ∃ i : Nat, i + k = n ∧ v10 = .int .i64 i ∧ v9 = .int .i64 (cnt q (8 * i)) ∧ Drawn0 W8 wr)
  case atStart => exact ⟨0, by omega, rfl, by simp [cnt], Drawn0.refl _⟩
  case round =>
    obtain ⟨i, hi, rfl, rfl, ⟨m1, rfl⟩⟩ := hrel
    by_cases hlt : i < n
    · obtain ⟨adb, xb, rfl, hcb, HXb⟩ := at_nat H8.out.2.2 i hlt
      obtain ⟨ada, xa, rfl, hca, HXa⟩ := at_nat HCA.out i hlt
      generalize hc8 : cnt q (8 * i) = cc at *
      have HC8 := Aside0.mk hc8
      clear hc8
      go_wp2_with fail
      go_loopg [9, 11] 8 (fun k v9 v11 wr => ∃ kk : Nat, kk + k = 8 ∧ v11 = .int .i64 kk ∧ v9 = .int .i64 (cnt q (8 * i + kk)) ∧ Drawn0 W8 wr)
      case atStart => exact ⟨0, by omega, rfl, by rw [← HC8.out]; rfl, ⟨m1, rfl⟩⟩
      case round =>
        obtain ⟨kk, hk8, rfl, rfl, ⟨m2, rfl⟩⟩ := hrel
        by_cases hkl : kk < 8
        · have hturn : (bits BinOp.and IntKind.u8 (bits BinOp.xor IntKind.u8 xb xa / 2 ^ (7 - kk)) 1 == 1) = decide (8 * i + kk = q) := by
            rw [HXb.out, HXa.out, HL2.out.1]
            exact turned_at l HA.out.2.1 q i kk (by rw [HA.out.2.2.2]; exact hlt) hkl (by rw [HA.out.2.2.2]; omega)
          by_cases hit : 8 * i + kk = q
          · rw [decide_eq_true hit] at hturn
            have hc0 : cnt q (8 * i + kk) = 0 := by rw [hit]; simp [cnt]
            have hc1 : cnt q (8 * i + (kk + 1)) = 1 := by rw [← Nat.add_assoc, hit]; simp [cnt]
            have HC1 := Aside0.mk hc1
            generalize cnt q (8 * i + kk) = c9 at *
            subst hc0
            have hne : ((8 : Int) * (i : Int) + (kk : Int) != (q : Int)) = false := bne_eq_false_iff_eq.2 (by omega)
            clear hc1 hit
            go_wp2
            go_quiet (fail)
            go_wp2
            go_roundg (7 - kk)
            case measure => omega
            case rel => exact ⟨kk + 1, by omega, by go_num, by rw [HC1.out], by repeat (first | exact Drawn0.refl _ | apply Drawn0.step)⟩
          · rw [decide_eq_false hit] at hturn
            have HC1 := Aside0.mk (show cnt q (8 * i + (kk + 1)) = cnt q (8 * i + kk) by rw [← Nat.add_assoc]; exact cnt_miss q _ hit)
            generalize hc9 : cnt q (8 * i + kk) = c9 at *
            clear hit hc9
            go_wp2
            go_quiet (fail)
            go_wp2
            go_roundg (7 - kk)
            case measure => omega
            case rel => exact ⟨kk + 1, by omega, by go_num, by rw [HC1.out], by repeat (first | exact Drawn0.refl _ | apply Drawn0.step)⟩
        · obtain rfl : kk = 8 := by omega
          obtain ⟨c9, hc9⟩ : ∃ c9, c9 = cnt q (8 * i + 8) := ⟨_, rfl⟩
          rw [← hc9]
          have HC1 : Aside0 (Value.int .i64 c9 = Value.int .i64 (cnt q (8 * (i + 1)))) := ⟨by rw [hc9]; rfl⟩
          clear hc9
          go_wp2
          go_roundg (n - (i + 1))
          case measure => omega
          case rel => exact ⟨i + 1, by omega, by go_num, HC1.out, ⟨m2, rfl⟩⟩
    · obtain rfl : n = i := by omega
      have hcn : cnt q (8 * n) = 1 := by unfold cnt; rw [if_pos (by omega)]
      rw [hcn]
      have hb9 : Below W8.heap.size W8 (W8.drewN m1) := pw_below_drewN (Below.refl _ _) _
      have H9 := Aside0.mk (And.intro (H8.out.1.below hb9) (And.intro (reach_to H8.out.2.1 H8.out.2.1.size hb9) (reach_to H8.out.2.1 H8.out.2.1.size hb9).size))
      generalize W8.drewN m1 = W9 at *
      clear hcn hb9 H8 HCA eb
      go_wp2_with fail
      have hq8' : q / 8 < n := by omega
      have hl2g : l2.getD (q / 8) 0 = flip (l.getD (q / 8) 0) (7 - q % 8) := by
        rw [HL2.out.1, List.getD_eq_getElem?_getD, List.getElem?_set_self (by rw [HA.out.2.2.2]; exact hq8')]
        rfl
      obtain ⟨hu0, hu1⟩ := byt_getD HA.out.2.1 (q / 8)
      have hback : l2.set (q / 8) (flip (l2.getD (q / 8) 0) (7 - q % 8)) = l := by
        rw [hl2g, (flip_any (l.getD (q / 8) 0) (7 - q % 8) hu0 hu1 (by omega)).2.2.2, HL2.out.1]
        exact set_back l (q / 8) _
      have hfl := flip_in 1 q 1 l2 W9 w w.heap.size (fun k => k ≠ gin) g [(1, l), (1, l2)] 0 H9.out.1 H9.out.2.1 H9.out.2.2 (by simp) (by simp) rfl (by rw [HL2.out.2]; exact hq8') (by omega) (by rw [HL2.out.2]; omega)
      rw [show ((1 : Nat) : Int) = 1 from rfl, hback] at hfl
      refine hfl.mono ?_
      clear hfl hback hl2g hu0 hu1 hq8'
      rintro e w10 ⟨rfl, hQ10, hB10, hs10⟩
      have H10 := Aside0.mk (And.intro (show QS w.heap.size (fun k => k ≠ gin) w10 g [(1, l), (1, l)] 0 from hQ10) (And.intro hB10 hB10.size))
      clear hQ10 hB10 hs10 H9
      go_wp2_with fail
      have ht := take_in 1 1 l w10 w w.heap.size (fun k => k ≠ gin) g [(1, l), (1, l)] 0 H10.out.1 H10.out.2.1 H10.out.2.2 HQ.out.2.2.2.1 (by simp) (by simp) rfl
      rw [show ((1 : Nat) : Int) = 1 from rfl] at ht
      refine ht.mono ?_
      clear ht
      rintro e w11 ⟨u11, rfl, hRu, hQ11, hB11, hs11⟩
      obtain ⟨Au, cu, rfl, hleu, hCu⟩ := Kd.R_reads hRu
      rw [HA.out.2.2.2] at hCu hleu ⊢
      obtain ⟨Y, hY⟩ : ∃ Y, Y = w11.alloc (.cells #[.int .i64 1, .slice Au n cu] 42) := ⟨_, rfl⟩
      have hbY : Below w11.heap.size w11 Y := by rw [hY]; exact below_alloc (Below.refl _ _) _
      have hyb : Y.heap[w11.heap.size]? = some (.cells #[.int .i64 1, .slice Au n cu] 42 (0, 0)) := by rw [hY]; exact heap_alloc_new w11 _
      have H11 := Aside0.mk (And.intro (show QS w.heap.size (fun k => k ≠ gin) Y g [(1, l)] 0 from QS.below (L := [(1, l)]) hQ11 hbY) (And.intro (reach_to hB11 hB11.size hbY) (Kd.C_below hCu hbY)))
      have z1 := (blk_cell hyb 1).trans rfl
      have HY := Aside0.mk hY
      clear hY hbY hyb hRu hQ11 hB11 hs11 hCu H10
      go_wp2_with (rw [← HY.out])
      refine (same_any Au A n n cu c l l _ H11.out.2.2 (Kd.C_below HA.out.1 H11.out.2.1) (by rw [HA.out.2.2.2]; omega)).mono ?_
      rintro e w12 ⟨rfl, hd⟩
      rw [decide_eq_true rfl]
      have H12 := Aside0.mk (And.intro (H11.out.1.below hd.below) (reach_to H11.out.2.1 H11.out.2.1.size hd.below))
      clear hd z1
      go_wp2_with fail
      have hfn := flip_neg 0 (-1) w12 w.heap.size (fun k => k ≠ gin) g [(1, l)] 0 H12.out.1 (by simp) (by omega)
      rw [show ((0 : Nat) : Int) = 0 from rfl] at hfn
      refine hfn.mono ?_
      rintro e w13 ⟨rfl, rfl⟩
      clear hfn
      go_wp2_with fail
      refine (flip_far 3 0 w12 w.heap.size (fun k => k ≠ gin) g [(1, l)] 0 H12.out.1 (Or.inr (by simp))).mono ?_
      rintro e w14 ⟨rfl, rfl⟩
      go_wp2
      go_ret
      exact ⟨rfl, H12.out.2⟩
theorem queueFlips_all (A : Option Addr) (n c : Nat) (l : List Int) (b : Int) (w : World) (hC : Kd.C (Kd.int .u8) w A n l) (hby : Byt l) (hbw : (Lit.int .i64 b).wf = true) :
    Calls Try.prog 9 #[.slice A n c, .int .i64 b] w fun e w' => e = .returned (.bool true) ∧ Below w.heap.size w w' := by
  by_cases h0 : n = 0 ∨ 30 < n
  · exact flips_short A n c b w h0 (Kd.C_max hC)
  · exact flips_good A n c l b w hC hby hbw (by omega) (by omega)
end Go.Proofs.Ytjcihhkeehjgdaa
