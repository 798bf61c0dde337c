/- BestOne: the walk of the law. -/
import Derived.Test.YtjcihhkeehjgdaaBestPlain
import Derived.Deep.RegionLaw
namespace Go.Proofs.Ytjcihhkeehjgdaa
open Go.RowKit Go.Proofs.YtjcihhkeehjgdaaW.PrintWords
set_option linter.unusedVariables false
set_option linter.unusedSimpArgs false
theorem infoBid : (Try.prog.info? 30).map (fun i => (i.zero, i.size, i.bytes)) = some (some (.agg #[.int .i64 0, .int .u32 0]), 2, 16) := by kernel_rfl
/-- append(row, rows...) as a step of a region that draws its order; bids. -/
theorem app_bids_step {ops : Array Oper} {o : Oper} {a : Act} {Q : Exit → Act → World → Prop} {Kc : Act → World → Prop} {w0 W : World} (base : Nat) (hw : Region.wanted o (yielded ops a.tmps) = true) (s x : Operand)
    (ho : o.op = .call { callee := .builtin .append, args := #[s, x], argTypes := #[22, 22] })
    (v : Value) (xs ys : List SBid) (A : Option Addr) (m c : Nat) (hs : a.eval s = v) (hx : a.eval x = .slice A m c)
    (HO : kBid.R 30 W base (fun _ => True) v xs) (HR : kBid.C W A m ys)
    (HB : Below base w0 W) (hbase : base ≤ W.heap.size) (hl : (xs.length + m) * 16 ≤ 140737488355328)
    (h : ∀ v1 w1, kBid.R 30 w1 base (fun _ => True) v1 (xs ++ ys) → Below base w0 w1 → Kc (a.put o.dst v1) w1) :
    if Region.wanted o (yielded ops a.tmps) = true then Oper.wp Try.prog o a W Kc Q else Kc (a.put o.dst undef) W :=
  Kd.R_append_rows_step kBid (w0 := w0) base hw s x 22 30 (.agg #[.int .i64 0, .int .u32 0]) 16 ho Try.underlying22 infoBid rfl (by decide) (by decide) v xs ys A m c (fun _ => True) (fun _ => False) hs hx HO HR (fun x cs h => by rw [kBid_open h]; exact kBid_mkM _ _ _ x) (fun _ h => h.elim) (fun _ _ => trivial) HB hbase hl (fun v1 w1 h1 h2 _ _ => h v1 w1 h1 h2)
/-- No two of the first i have one address. -/
def Unlike (l : List SBid) (i : Nat) : Prop := ∀ p q, p < i → q < p → (l.getD p zBid).f1 ≠ (l.getD q zBid).f1
def without (l : List SBid) (i : Nat) : List SBid := l.take i ++ l.drop (i + 1)
theorem without_mem (l : List SBid) (i j : Nat) (hj : j < l.length) (h : j ≠ i) : l.getD j zBid ∈ without l i := by
  unfold without
  rw [List.mem_append, List.getD_eq_getElem?_getD, List.getElem?_eq_getElem hj]
  rcases Nat.lt_or_ge j i with h1 | h1
  · exact .inl (List.mem_take_iff_getElem.2 ⟨j, by omega, rfl⟩)
  · refine .inr (List.mem_drop_iff_getElem.2 ⟨j - (i + 1), by omega, ?_⟩)
    simp only [Option.getD_some]
    congr 1
    omega
theorem without_sub (l : List SBid) (i : Nat) (x : SBid) (h : x ∈ without l i) : x ∈ l := by
  unfold without at h
  rcases List.mem_append.1 h with h | h
  · exact List.mem_of_mem_take h
  · exact List.mem_of_mem_drop h
theorem one_lost (l : List SBid) (ex : Bool) (other : List SBid) (hu : Unlike l l.length) (he : (!ex && decide (0 < other.length)) = false) (i : Nat) (hi : i < l.length) :
    lostB (l.getD i zBid) ex (without l i) other = decide (i ≠ bestTo l l.length) := by
  unfold lostB
  rw [he, Bool.false_or]
  have hb := bestTo_le l l.length
  by_cases h : i = bestTo l l.length
  · rw [decide_eq_false (by simpa using h), List.any_eq_false]
    intro x hx
    have hx := without_sub l i x hx
    obtain ⟨j, hj, rfl⟩ := List.getElem_of_mem hx
    have := best_none l l.length j hj
    rw [← h, List.getD_eq_getElem?_getD (i := j), List.getElem?_eq_getElem hj] at this
    simpa using this
  · rw [decide_eq_true (by simpa using h), List.any_eq_true]
    refine ⟨_, without_mem l i (bestTo l l.length) (by omega) (fun e => h e.symm), ?_⟩
    have h1 := best_none l l.length i hi
    rw [better_not] at h1
    rw [better_iff]
    have h2 : (l.getD i zBid).f1 ≠ (l.getD (bestTo l l.length) zBid).f1 := by
      rcases Nat.lt_or_ge i (bestTo l l.length) with h3 | h3
      · exact (hu _ i (by omega) h3).symm
      · exact hu i _ hi (by omega)
    omega
theorem all_lost (l other : List SBid) (x : SBid) (ex : Bool) (he : (!ex && decide (0 < other.length)) = true) (same : List SBid) : lostB x ex same other = true := by
  unfold lostB; rw [he]; rfl
def wonTo (hb : Bool) (b j : Nat) : Int := if hb = false ∧ b < j then 1 else 0
def lastTo (hb : Bool) (b j : Nat) : Int := if hb = false ∧ b < j then b else -1
theorem won_lost {hb : Bool} {b j : Nat} (h : (hb || decide (j ≠ b)) = true) : wonTo hb b (j + 1) = wonTo hb b j ∧ lastTo hb b (j + 1) = lastTo hb b j := by
  unfold wonTo lastTo
  cases hb with
  | true => simp
  | false =>
    simp at h
    have : (b < j + 1) = (b < j) := by rw [eq_iff_iff]; omega
    simp [this]
theorem won_kept {hb : Bool} {b j : Nat} (h : (hb || decide (j ≠ b)) = false) : wonTo hb b (j + 1) = wonTo hb b j + 1 ∧ lastTo hb b (j + 1) = j := by
  unfold wonTo lastTo
  cases hb with
  | true => simp at h
  | false =>
    simp at h
    subst h
    simp
theorem wonTo_bd (hb : Bool) (b j : Nat) : 0 ≤ wonTo hb b j ∧ wonTo hb b j ≤ 1 := by unfold wonTo; split <;> omega
set_option maxHeartbeats 4000000 in
set_option maxRecDepth 100000 in
theorem bestOne_walk (ex : Bool) (A0 A1 : Option Addr) (n0 n1 c0 c1 : Nat) (l other : List SBid) (w : World) (hr0 : Kd.C kBid w A0 n0 l) (hr1 : Kd.C kBid w A1 n1 other) (hc0 : n0 ≤ c0) (h0 : ¬ (20 : Int) < n0) (h1 : ¬ (20 : Int) < n1) (hz : 0 < n0) :
    Calls Try.prog 5 #[.slice A0 n0 c0, .slice A1 n1 c1, .bool ex] w fun e w' => e = .returned (.bool true) ∧ Below w.heap.size w w' := by
  have hu30 := Try.underlying30
  have HN0 := Aside0.mk hr0.1
  have HN1 := Aside0.mk hr1.1
  have hz1 : ((n0 : Int) == 0) = false := by rw [beq_eq_false_iff_ne]; omega
  obtain ⟨hb, HLO, hc⟩ : ∃ hb : Bool, Aside0 (hb = (!ex && decide (0 < n1))) ∧ (ex = true ∨ (ex = false ∧ n1 = 0) ∨ (ex = false ∧ (0 : Int) < n1)) := ⟨_, ⟨rfl⟩, by cases ex <;> simp <;> omega⟩
  have hble := bestTo_le l n0
  obtain ⟨b, hbe⟩ : ∃ b, b = bestTo l n0 := ⟨_, rfl⟩
  rw [← hbe] at hble
  have HBE := Aside0.mk hbe
  clear hbe
  rcases hc with rfl | ⟨rfl, rfl⟩ | ⟨rfl, hn1⟩
  all_goals
    go_enter Try.func5, Try.ntmps5
    go_wp2_with fail
    refine (first18_any w).mono ?_
    rintro e w1 ⟨rfl, hb1⟩
    have hr := Kd.C_below hr0 hb1
    go_wp2_with fail
    go_loopg [8] n0 (fun k i wr => ∃ j : Nat, j + k = n0 ∧ i = .int .i64 j ∧ Aside0 (Unlike l j) ∧ Below w1.heap.size w1 wr)
    case atStart => exact ⟨0, by omega, rfl, ⟨fun p q h => absurd h (by omega)⟩, Below.refl _ _⟩
    case round =>
      obtain ⟨j, hj, rfl, HU, hbel⟩ := hrel
      by_cases hlt : j < n0
      · go_wp2_with fail
        obtain ⟨wo, hwo⟩ : ∃ wo : World, wo = wr := ⟨_, rfl⟩
        subst hwo
        have hr2 := Kd.C_below hr hbel
        go_loopg [9] j (fun k i wr => ∃ q : Nat, q + k = j ∧ i = .int .i64 q ∧ Aside0 (∀ p, p < q → (l.getD j zBid).f1 ≠ (l.getD p zBid).f1) ∧ Below wo.heap.size wo wr)
        case atStart => exact ⟨0, by omega, rfl, ⟨fun p h => absurd h (by omega)⟩, Below.refl _ _⟩
        case round =>
          obtain ⟨q, hq, rfl, HQ, hbel2⟩ := hrel
          by_cases hlq : q < j
          · have hC := Kd.C_below hr2 hbel2
            obtain ⟨ad, x, rfl, x0, x1, HX⟩ := bid_at hC j hlt
            obtain ⟨ad2, y, e2, y0, y1, HY⟩ := bid_at hC q (by omega)
            cases e2
            have hji : (j : Int) < (n0 : Int) := by omega
            have hqi : (q : Int) < (n0 : Int) := by omega
            go_wp2_with fail
            go_quiet (fail)
            go_wp2
            · go_ret
              exact ⟨rfl, below_then hb1 hb1.size (below_then hbel hbel.size (pw_below_drewN hbel2 _))⟩
            · have hne : (x.f1 == y.f1) = false := by assumption
              have hxy : x.f1 ≠ y.f1 := by rw [beq_eq_false_iff_ne] at hne; exact hne
              go_roundg (gk - 1)
              case measure => omega
              case rel =>
                refine ⟨q + 1, by omega, by go_num, ⟨fun p hp => ?_⟩, pw_below_drewN hbel2 _⟩
                rcases Nat.lt_or_ge p q with h | h
                · exact HQ.out p h
                · obtain rfl : p = q := by omega
                  rw [← HX.out, ← HY.out]
                  exact hxy
          · go_wp2
            go_roundg (n0 - (j + 1))
            case measure => omega
            case rel =>
              refine ⟨j + 1, by omega, by go_num, ⟨fun p q hp hqp => ?_⟩, below_then hbel hbel.size hbel2⟩
              rcases Nat.lt_or_ge p j with h | h
              · exact HU.out p q h hqp
              · obtain rfl : p = j := by omega
                exact HQ.out q (by omega)
      · obtain rfl : j = n0 := by omega
        have hbw := below_then hb1 hb1.size hbel
        have hrr := Kd.C_below hr0 hbw
        have HL : Aside0 (∀ i, i < j → lostB (l.getD i zBid) _ (without l i) other = (hb || decide (i ≠ b))) := ⟨fun i hi => by
          cases hhb : hb with
          | true => rw [all_lost l other _ _ (by rw [HN1.out, ← HLO.out, hhb]) _]; rfl
          | false =>
            have hu := HU.out
            rw [← HN0.out] at hu
            rw [one_lost l _ other hu (by rw [HN1.out, ← HLO.out, hhb]) i (by rw [HN0.out]; exact hi), HN0.out, ← HBE.out]
            rfl⟩
        obtain ⟨W1, hW1⟩ : ∃ W1 : World, W1 = wr := ⟨_, rfl⟩
        subst hW1
        clear hr hbel hb1 HU
        go_wp2_with fail
        go_loopg [10, 11, 12] j (fun k won at_ i wr => ∃ p : Nat, p + k = j ∧ i = .int .i64 p ∧ won = .int .i64 (wonTo hb b p) ∧ at_ = .int .i64 (lastTo hb b p) ∧ Below W1.heap.size W1 wr)
        case atStart => exact ⟨0, by omega, rfl, by simp [wonTo], by simp [lastTo], Below.refl _ _⟩
        case round =>
          obtain ⟨p, hp, rfl, rfl, rfl, hbel⟩ := hrel
          by_cases hlp : p < j
          · have hC := Kd.C_below hrr hbel
            go_wp2_with fail
            obtain ⟨A2, n2, c2, hc2, hcutB, hCd⟩ := drop_ex (P := Try.prog) 22 30 .i64 Try.underlying22 infoBid hC hc0 ((p : Int) + 1) (by omega) (by omega)
            rw [show ((p : Int) + 1).toNat = p + 1 by omega] at hCd
            have hcutA := cut_to (P := Try.prog) 22 30 .i64 Try.underlying22 infoBid A0 j c0 (p : Int) p rfl (by omega)
            have hCt := C_take' (m := p) hC (by omega)
            have hwr : IntKind.i64.wrap ((p : Int) + 1) = (p : Int) + 1 := IntWalk.i64_in _ (by omega)
            have hnew : kBid.R 30 (wr.drew.alloc (.cells #[] 30)) wr.heap.size (fun _ => True) (.slice (some ⟨wr.heap.size, 0, none⟩) 0 0) [] := by
              have h := made0_R kBid 30 wr.drew wr.heap.size (.agg #[.int .i64 0, .int .u32 0]) 0 (fun _ => True) (Nat.le_refl _) (by omega) trivial
              rw [show madeCells (Value.agg #[.int .i64 0, .int .u32 0]).cells (0 * kBid.sz) = #[] from by simp [madeCells]] at h
              exact h
            have hbnew : Below wr.heap.size wr.drew (wr.drew.alloc (.cells #[] 30)) := (Below.refl wr.drew.heap.size wr.drew).alloc (Nat.le_refl _) _
            have hln2 : n2 = j - (p + 1) := by have := hCd.1; rw [List.length_drop, HN0.out] at this; exact this.symm
            have HLN := Aside0.mk hln2
            have HNEW := Aside0.mk hnew
            have HBN := Aside0.mk hbnew
            have hlB : (([] ++ l.take p : List SBid).length + n2) * 16 ≤ 140737488355328 := by rw [List.nil_append, List.length_take]; omega
            clear hln2 hnew hbnew
            go_region_law (first | (refine app_bids_step (w0 := wr.drew) wr.heap.size (by rfl) (.tmp 60) (.tmp 63) rfl (.slice (some ⟨wr.heap.size, 0, none⟩) 0 0) [] (l.take p) A0 p c0 ?_ ?_ ?_ ?_ ?_ ?_ ?_ ?_; (simp [Act.eval, Act.put]); (simp [Act.eval, Act.put]); (exact HNEW.out); (exact Kd.C_below (Kd.C_drew hCt) HBN.out); (exact HBN.out); (exact HBN.out.size); (simp; omega); intro v3 w3 hown3 hbel3) | (refine app_bids_step (w0 := wr.drew) wr.heap.size (by rfl) (.tmp 64) (.tmp 68) rfl v3 ([] ++ l.take p) (l.drop (p + 1)) A2 n2 c2 ?_ ?_ ?_ ?_ ?_ ?_ ?_ ?_; (simp [Act.eval, Act.put]); (simp [Act.eval, Act.put]); (exact hown3); (exact Kd.C_below (Kd.C_drew hCd) hbel3); (exact hbel3); (exact hbel3.size); (exact hlB); intro v4 w4 hown4 hbel4))
            have hown5 : kBid.R 30 w4 wr.heap.size (fun _ => True) v4 (without l p) := hown4
            obtain ⟨A5, c5, rfl, hc5, hC5⟩ := Kd.R_reads hown5
            have hbel5 := below_then (below_drew hbel) hbel.size hbel4
            have hr5 := Kd.C_below hrr hbel5
            obtain ⟨ad, x, rfl, x0, x1, HX⟩ := bid_at hr5 p hlp
            have hwl : (without l p).length ≤ 1000000 := by unfold without; rw [List.length_append, List.length_take, List.length_drop, HN0.out]; omega
            obtain ⟨same, hsame⟩ : ∃ same, same = without l p := ⟨_, rfl⟩
            rw [← hsame] at hC5 hwl ⊢
            have HV : Aside0 (lostB x _ same other = (hb || decide (p ≠ b))) := ⟨by rw [HX.out, hsame]; exact HL.out p hlp⟩
            clear hown4 hown5 hown3 hbel3 hbel4 hsame hcutA hcutB hCd hCt hC
            have hwon := wonTo_bd hb b p
            cases hcs : (hb || decide (p ≠ b)) with
            | true =>
              have HW := Aside0.mk (won_lost hcs)
              rw [hcs] at HV
              clear hcs
              go_wp2_with fail
              refine (lost_any x _ _ A1 _ _ c5 c1 same other w4 hC5 hwl HN1.out).mono ?_
              rintro e w6 ⟨rfl, hb6⟩
              rw [HV.out]
              have hbel6 := below_then hbel5 hbel5.size hb6
              clear hb6 hbel5 x0 x1
              go_wp2_with fail
              go_roundg (gk - 1)
              case measure => omega
              case rel => exact ⟨p + 1, by omega, by go_num, word_int (by rw [HW.out.1]), word_int (by rw [HW.out.2]), hbel6⟩
            | false =>
              have HW := Aside0.mk (won_kept hcs)
              rw [hcs] at HV
              clear hcs
              go_wp2_with fail
              refine (lost_any x _ _ A1 _ _ c5 c1 same other w4 hC5 hwl HN1.out).mono ?_
              rintro e w6 ⟨rfl, hb6⟩
              rw [HV.out]
              have hbel6 := below_then hbel5 hbel5.size hb6
              clear hb6 hbel5 x0 x1
              go_wp2_with fail
              go_roundg (gk - 1)
              case measure => omega
              case rel => exact ⟨p + 1, by omega, by go_num, word_int (by rw [HW.out.1]), word_int (by rw [HW.out.2]), hbel6⟩
          · obtain rfl : p = j := by omega
            have hbw2 := below_then hbw hbw.size hbel
            have hr6 := Kd.C_below hrr hbel
            first
              | (have hbt : hb = true := (by rw [HLO.out]; simp; omega)
                 rw [show wonTo hb b p = 0 from (by simp [wonTo, hbt])]
                 clear hbt
                 go_wp2_with fail
                 go_ret
                 exact ⟨rfl, hbw2⟩)
              | (have hbt : hb = false := (by rw [HLO.out]; simp)
                 rw [show wonTo hb b p = 1 from (by simp [wonTo, hbt]; omega), show lastTo hb b p = (b : Int) from (by simp [lastTo, hbt]; omega)]
                 clear hbt
                 go_wp2_with fail
                 refine (best_any _ p c0 l wr hr6 (by omega)).mono ?_
                 rintro e w7 ⟨rfl, hb7⟩
                 rw [← HBE.out]
                 go_wp2_with fail
                 go_ret
                 exact ⟨rfl, below_then hbw2 hbw2.size hb7⟩)
set_option maxHeartbeats 400000 in
set_option maxRecDepth 100000 in
theorem bestOne_all (ex : Bool) (A0 A1 : Option Addr) (n0 n1 c0 c1 : Nat) (l other : List SBid) (w : World) (hr0 : Kd.C kBid w A0 n0 l) (hr1 : Kd.C kBid w A1 n1 other) (hc0 : n0 ≤ c0) :
    Calls Try.prog 5 #[.slice A0 n0 c0, .slice A1 n1 c1, .bool ex] w fun e w' => e = .returned (.bool true) ∧ Below w.heap.size w w' := by
  have hu30 := Try.underlying30
  by_cases h0 : (20 : Int) < n0
  · go_enter Try.func5, Try.ntmps5
    go_wp2_with (go_at_call 14; refine (first18_any _).mono ?_; rintro e w1 ⟨rfl, hb1⟩)
    go_ret
    exact ⟨rfl, hb1⟩
  · rcases Nat.eq_zero_or_pos n0 with hz | hz
    · subst hz
      go_enter Try.func5, Try.ntmps5
      go_wp2_with (go_at_call 14; refine (first18_any _).mono ?_; rintro e w1 ⟨rfl, hb1⟩)
      go_ret
      exact ⟨rfl, hb1⟩
    · by_cases h1 : (20 : Int) < n1
      · have hz1 : ((n0 : Int) == 0) = false := by rw [beq_eq_false_iff_ne]; omega
        go_enter Try.func5, Try.ntmps5
        go_wp2_with (go_at_call 14; refine (first18_any _).mono ?_; rintro e w1 ⟨rfl, hb1⟩)
        go_ret
        exact ⟨rfl, hb1⟩
      · exact bestOne_walk ex A0 A1 n0 n1 c0 c1 l other w hr0 hr1 hc0 h0 h1 hz
end Go.Proofs.Ytjcihhkeehjgdaa
