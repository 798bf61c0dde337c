/- SumMoves: the walk of the law. -/
import Derived.Test.YtbgbplbkombfjaaSumFirst
import Derived.Test.YtbgbplbkombfjaaRowBytes
import Derived.Deep.RegionLaw
namespace Go.Proofs.Ytbgbplbkombfjaa
open Go.RowKit Go.Proofs.YtbgbplbkombfjaaW.PrintWords SumPlain
set_option linter.unusedVariables false
set_option linter.unusedSimpArgs false
set_option maxHeartbeats 400000 in
theorem sumMoves_walk (A : Option Addr) (n c : Nat) (l : List Int) (by_ : Int) (w : World) (hr : Kd.C (Kd.int .u8) w A n l) (hb : Byt l) (hc : n ≤ c) (hwf : (Lit.int .i64 by_).wf = true) :
    Calls Try.prog 3 #[.slice A n c, .int .i64 by_] w fun e w' => e = .returned (.bool true) ∧ Below w.heap.size w w' := by
  by_cases hl : (200 : Int) < n
  · go_enter Try.func3, Try.ntmps3
    go_wp2_with (go_at_call 8; refine (first2_any w).mono ?_; rintro e w1 ⟨rfl, rfl⟩)
    go_ret
    exact ⟨rfl, Below.refl _ _⟩
  · by_cases hl2 : (n : Int) < 2
    · go_enter Try.func3, Try.ntmps3
      go_wp2_with (go_at_call 8; refine (first2_any w).mono ?_; rintro e w1 ⟨rfl, rfl⟩)
      go_ret
      exact ⟨rfl, Below.refl _ _⟩
    · obtain ⟨x, hx⟩ : ∃ x, x = l.take (n / 2 * 2) := ⟨_, rfl⟩
      have hCx := C_take' (m := n / 2 * 2) hr (by omega)
      rw [← hx] at hCx
      have hbx : Byt x := by rw [hx]; exact byt_take hb _
      have hxl := hCx.1
      have hx2 : x.length % 2 = 0 := by omega
      have hx3 : x.length ≤ 200 := by omega
      have hx4 : 2 ≤ x.length := by omega
      obtain ⟨q, hq, hq2⟩ : ∃ q : Nat, by_ % ((x.length : Int) / 2) = (q : Int) ∧ 2 * q ≤ x.length := by
        have h1 := Int.emod_nonneg by_ (show ((x.length : Int) / 2) ≠ 0 by omega)
        have h2 := Int.emod_lt_of_pos by_ (show 0 < ((x.length : Int) / 2) by omega)
        obtain ⟨q, hq⟩ := Int.eq_ofNat_of_zero_le h1
        exact ⟨q, hq, by omega⟩
      have HNum : Aside0 (∀ W : World, Calls Try.prog 10 #[.int .i64 by_, .int .i64 ((x.length : Int) / 2)] W fun e w' => e = .returned (.int .i64 (q : Int)) ∧ W = w') := ⟨fun W => by
        rw [← hq]; exact number_any by_ _ W (by omega) (by omega) hwf⟩
      have HT := Aside0.mk (ofL_turn x (2 * q) hx2 (by omega) hq2)
      have HZ := Aside0.mk (ofL_zeros x hx2)
      have HX2 := Aside0.mk hx2
      have HCx := Aside0.mk hCx
      clear hx hxl hq hx2 hCx
      go_enter Try.func3, Try.ntmps3
      go_wp2_with fail
      refine (first2_any w).mono ?_
      rintro e w1 ⟨rfl, rfl⟩
      go_wp2_with fail
      refine (bytes_any A _ c x w HCx.out (by omega)).mono ?_
      rintro e w1 ⟨v1, rfl, hown1, hbel1⟩
      obtain ⟨A1, c1, rfl, hc1, hC1⟩ := Kd.R_reads hown1
      obtain ⟨A2, n2, c2, hc2, hcut, hCd⟩ := drop_ex (P := Try.prog) 22 5 .i64 Try.underlying22 Try.infoB hC1 hc1 (2 * (q : Int)) (by omega) (by omega)
      rw [show (2 * (q : Int)).toNat = 2 * q by omega] at hCd
      go_wp2_with fail
      refine (HNum.out w1).mono ?_
      rintro e w2 ⟨rfl, rfl⟩
      go_wp2_with fail
      have hCt := C_take' (m := 2 * q) hC1 hq2
      have hcut2 := cut_to (P := Try.prog) 22 5 .i64 Try.underlying22 Try.infoB A1 x.length c1 (2 * (q : Int)) (2 * q) (by omega) (by omega)
      have hdl : (x.drop (2 * q)).length ≤ 1000000 := by rw [List.length_drop]; omega
      go_region_law (first | (go_simp; go_at_call 9; refine (bytes_any _ _ _ (x.drop (2 * q)) _ (by exact Kd.C_drew hCd) (by exact hdl)).mono ?_; rintro e w2 ⟨v2, rfl, hown2, hbel2⟩) | (refine app_row_step (w0 := w1.drew) w1.heap.size (by rfl) (.tmp 37) (.tmp 40) 22 5 1 rfl Try.underlying22 Try.infoB (by decide) v2 (x.drop (2 * q)) (x.take (2 * q)) A1 (2 * q) c1 ?hs ?hx ?HO ?HR ?HB ?hbase ?hl ?hK; (case hs => simp [Act.eval, Act.put]); (case hx => simp [Act.eval, Act.put]); (case HO => exact hown2); (case HR => exact Kd.C_below (Kd.C_drew hCt) hbel2); (case HB => exact hbel2); (case hbase => exact hbel2.size); (case hl => rw [List.length_drop]; omega); intro v3 w3 hown3 hbel3))
      obtain ⟨A3, c3, rfl, hc3, hC3⟩ := Kd.R_reads hown3
      have hyl : (x.drop (2 * q) ++ x.take (2 * q)).length ≤ 1000000 := by rw [List.length_append, List.length_drop, List.length_take]; omega
      have hby : Byt (x.drop (2 * q) ++ x.take (2 * q)) := byt_append (byt_drop hbx _) (byt_take hbx _)
      obtain ⟨y, hy⟩ : ∃ y, y = x.drop (2 * q) ++ x.take (2 * q) := ⟨_, rfl⟩
      rw [← hy] at hC3 hyl hby HT ⊢
      have hCx3 := Kd.C_below (Kd.C_drew hC1) hbel3
      have hb3 := below_then (below_drew hbel1) hbel1.size hbel3
      clear hy hC1 hCd hCt hcut hcut2 hown1 hown3 hbel1 hbel3 hdl hown2 hbel2
      go_wp2_with fail
      refine (bytes_any A1 _ c1 x w3 hCx3 (by omega)).mono ?_
      rintro e w4 ⟨v4, rfl, hown4, hbel4⟩
      have hlit := lit_C .u8 w4 5 [0, 0] (by decide)
      have hown4' := Kd.R_below hown4 ((Below.refl w4.heap.size w4).alloc (Nat.le_refl _) (.cells (nums .u8 [0, 0]).toArray 5 (0, 0)))
      have hbel4' := hbel4.alloc hbel4.size (.cells (nums .u8 [0, 0]).toArray 5 (0, 0))
      have HL := Aside0.mk hlit
      have HO := Aside0.mk hown4'
      have HB := Aside0.mk hbel4'
      clear hlit hown4 hown4' hbel4 hbel4'
      go_wp2_with (at_builtin; refine Kd.R_append_row (w0 := w3) (Value.int .u8) 0 w3.heap.size rfl (.tmp 43) (.tmp 44) 22 5 (.int .u8 0) 1 rfl Try.underlying22 Try.infoB rfl (by decide) _ x [0, 0] (some ⟨w4.heap.size, 0, none⟩) 2 2 (fun _ => True) rfl rfl (fun _ _ => trivial) HO.out HL.out HB.out HB.out.size ?c6 ?_)
      case c6 => omega
      intro v5 w5 hown5 hbel5 _ _
      obtain ⟨A5, c5, rfl, hc5, hC5⟩ := Kd.R_reads hown5
      have hzl : (x ++ [0, 0]).length ≤ 1000000 := by rw [List.length_append]; simp; omega
      have hbz : Byt (x ++ [0, 0]) := byt_append hbx (fun z hz => by simp at hz; omega)
      obtain ⟨z, hz⟩ : ∃ z, z = x ++ [0, 0] := ⟨_, rfl⟩
      have hC5' : (Kd.int .u8).C w5 A5 z.length z := by rw [hz]; exact hC5
      rw [← hz] at hzl hbz HZ ⊢
      have hCx5 := Kd.C_below hCx3 hbel5
      have hCy5 := Kd.C_below hC3 hbel5
      have hb5 := below_then hb3 hb3.size hbel5
      clear hz hC5 hown5 hbel5 hCx3 hC3 hb3 HL HO HB
      go_wp2_with fail
      refine (of_any A1 _ c1 x w5 hCx5 hbx (by omega)).mono ?_
      rintro e w6 ⟨rfl, rfl⟩
      go_wp2_with fail
      refine (of_any A3 _ c3 y w5 hCy5 hby hyl).mono ?_
      rintro e w6 ⟨rfl, rfl⟩
      rw [HT.out]
      go_wp2_with fail
      refine (of_any A1 _ c1 x w5 hCx5 hbx (by omega)).mono ?_
      rintro e w6 ⟨rfl, rfl⟩
      go_wp2_with fail
      refine (of_any A5 _ c5 z w5 hC5' hbz hzl).mono ?_
      rintro e w6 ⟨rfl, rfl⟩
      rw [HZ.out]
      go_wp2_with fail
      go_ret
      exact ⟨rfl, hb5⟩
end Go.Proofs.Ytbgbplbkombfjaa
