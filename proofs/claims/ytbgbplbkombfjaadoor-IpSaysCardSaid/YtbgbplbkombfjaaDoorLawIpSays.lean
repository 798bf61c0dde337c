/- IpSays: the walk of the law. -/
import Derived.Test.YtbgbplbkombfjaaDoorLawIpBack
import Derived.Test.YtbgbplbkombfjaaDoorIpRefH
namespace Go.Proofs.YtbgbplbkombfjaaDoor
open Go.RowKit Go.Proofs.YtbgbplbkombfjaaDoorW.PrintWords SumPlain
set_option linter.unusedVariables false
set_option linter.unusedSimpArgs false
attribute [local go_sem] setCell_drewN alloc_drewN
theorem is_self (E : Nat → Addr) (x : Option Nat) (hx : ∀ i, x = some i → i ∈ ordE) (w : World) (hE : Errs ordE E w) :
    Calls Tryd.prog 20 #[errV E x, .int .i64 (codeOf x)] w fun e w' => e = .returned (.bool true) ∧ Below w.heap.size w w' := by
  have h := is_any E x (codeOf x) hx w hE
  rwa [decide_eq_true rfl] at h
theorem sameb_self (A B : Option Addr) (n m c d : Nat) (l : List Int) (w : World) (h0 : Kd.C (Kd.int .u8) w A n l) (h1 : Kd.C (Kd.int .u8) w B m l) (hl : l.length ≤ 1000000) :
    Calls Tryd.prog 21 #[.slice A n c, .slice B m d] w fun e w' => e = .returned (.bool true) ∧ Below w.heap.size w w' :=
  (same_any A B n m c d l l w h0 h1 hl).mono fun e w' ⟨he, hd⟩ => ⟨by rw [he, decide_eq_true rfl], hd.below⟩
set_option maxHeartbeats 1000000 in
set_option maxRecDepth 100000 in
theorem ipSays_all (E : Nat → Addr) (h : Hdr) (A : Option Addr) (n c : Nat) (l : List Int) (w : World) (hE : Errs ordE E w) (hw : h.wf) (hr : Kd.C (Kd.int .u8) w A n l) (hby : Byt l) (hle : n ≤ c) :
    Calls Tryd.prog 3 #[.agg h.cells, .slice A n c] w fun e w' => e = .returned (.bool true) ∧ Below w.heap.size w w' := by
  have hu := Tryd.underlying25
  have hu2 := Tryd.underlying34
  have hmx := Kd.C_max hr
  obtain ⟨x0, x1, x2, x3, x4, x5⟩ := h
  have HW := Aside0.mk (And.intro hw (And.intro hE (And.intro hr (And.intro hby (And.intro hle (And.intro (bytesL_len ⟨x0, x1, x2, x3, x4, x5⟩) (And.intro (hopL_len l) (And.intro (bytesL_ord ⟨x0, x1, x2, x3, x4, x5⟩) (And.intro (readL_ord l) (hopL_ord l))))))))))
  simp only [Hdr.cells]
  clear hw hE hr hby hle
  obtain ⟨W, hW⟩ : ∃ W, W = w.alloc (.cells #[.int .i64 x0, .int .i64 x1, .int .i64 x2, .int .i64 x3, .int .u32 x4, .int .u32 x5] 25) := ⟨_, rfl⟩
  have hb0 : Below w.heap.size w W := by rw [hW]; exact below_alloc (Below.refl _ _) _
  have hh : W.heap[w.heap.size]? = some (.cells #[.int .i64 x0, .int .i64 x1, .int .i64 x2, .int .i64 x3, .int .u32 x4, .int .u32 x5] 25 (0, 0)) := by rw [hW]; exact heap_alloc_new w _
  have HS := Aside0.mk (And.intro hb0 hh)
  have HX := Aside0.mk hW
  clear hb0 hh hW
  go_enter Tryd.func3, Tryd.ntmps3
  go_wp2_with fail
  have hW := HX.out
  rw [← hW]
  clear HX hW
  obtain ⟨hb0, hh⟩ := HS.out
  clear HS
  obtain ⟨b, hb⟩ : ∃ b, b = w.heap.size := ⟨_, rfl⟩
  rw [← hb] at hh ⊢
  clear hb
  have hE1 := HW.out.2.1.below hb0
  refine (first3_any E W (hE1.sub ip_ord)).mono ?_
  rintro e w2 ⟨rfl, hb2⟩
  have hB2 := reach_to hb0 hb0.size hb2
  replace hh := blk_below hh hb2
  clear hb0 hE1 hb2
  by_cases hn : 60 < n
  · have hd : decide (60 < (n : Int)) = true := decide_eq_true (by omega)
    clear hh hn
    go_wp2
    go_ret
    exact ⟨rfl, hB2⟩
  · have hd : (n : Int) ≤ 60 := by omega
    have HN := Aside0.mk hn
    clear hn
    have p0 := (blk_cell hh 0).trans rfl
    have p1 := (blk_cell hh 1).trans rfl
    have p2 := (blk_cell hh 2).trans rfl
    have p3 := (blk_cell hh 3).trans rfl
    have p4 := (blk_cell hh 4).trans rfl
    have p5 := (blk_cell hh 5).trans rfl
    have HQ := Aside0.mk (And.intro hh hB2)
    clear hh hB2
    go_wp2_with fail
    clear p0 p1 p2 p3 p4 p5
    refine (ipBytes_any E ⟨x0, x1, x2, x3, x4, x5⟩ w2 ((HW.out.2.1.below HQ.out.2).sub ip_ord) HW.out.1).mono ?_
    rintro e w3 ⟨v3, rfl, hR3, hb3⟩
    obtain ⟨A3, c3, rfl, hle3, hC3⟩ := Kd.R_reads hR3
    obtain ⟨hh, hB2⟩ := HQ.out
    clear HQ
    replace hh := blk_below hh hb3
    have hB3 := reach_to hB2 hB2.size hb3
    clear hR3 hB2 hb3
    have p0 := (blk_cell hh 0).trans rfl
    have p1 := (blk_cell hh 1).trans rfl
    have p2 := (blk_cell hh 2).trans rfl
    have p3 := (blk_cell hh 3).trans rfl
    have p4 := (blk_cell hh 4).trans rfl
    have p5 := (blk_cell hh 5).trans rfl
    have HQ := Aside0.mk (And.intro hB3 hC3)
    clear hh hB3 hC3
    generalize hx3 : (bytesL ⟨x0, x1, x2, x3, x4, x5⟩).2 = e3 at *
    have HX3 := Aside0.mk hx3
    clear hx3
    generalize hl3 : (bytesL ⟨x0, x1, x2, x3, x4, x5⟩).1 = b3 at *
    have HL3 := Aside0.mk hl3
    clear hl3
    generalize hev3 : errV E e3 = ev3
    have HEV3 := Aside0.mk hev3
    clear hev3
    go_wp2_with fail
    clear p0 p1 p2 p3 p4 p5
    refine (other3_any ⟨x0, x1, x2, x3, x4, x5⟩ w3).mono ?_
    rintro e w4 ⟨rfl, hb4⟩
    simp only [Hdr.cells]
    obtain ⟨hB3, hC3⟩ := HQ.out
    have hB4 := reach_to hB3 hB3.size hb4
    have hC4 := Kd.C_below hC3 hb4
    clear HQ hB3 hC3 hb4
    have HQ := Aside0.mk (And.intro hB4 hC4)
    clear hB4 hC4
    go_wp2_with fail
    refine (refBytes_any ⟨x0, x1, x2, x3, x4, x5⟩ w4 HW.out.1).mono ?_
    rintro e w5 ⟨v5, rfl, hR5, hb5⟩
    rw [HX3.out]
    rw [HL3.out] at hR5
    obtain ⟨A5, c5, rfl, hle5, hC5⟩ := Kd.R_reads hR5
    obtain ⟨hB4, hC4⟩ := HQ.out
    have hB5 := reach_to hB4 hB4.size hb5
    have hC4' := Kd.C_below hC4 hb5
    clear HQ hB4 hC4 hb5 hR5
    have HQ := Aside0.mk (And.intro hB5 (And.intro hC4' hC5))
    clear hB5 hC4' hC5
    generalize hk3 : codeOf e3 = n3
    have HK3 := Aside0.mk hk3
    clear hk3
    go_wp2_with fail
    refine (ipRead_any E A n c l w5 ((HW.out.2.1.below HQ.out.1).sub ip_ord) (Kd.C_below HW.out.2.2.1 HQ.out.1) HW.out.2.2.2.1 HW.out.2.2.2.2.1 (by omega)).mono ?_
    rintro e w6 ⟨rfl, hb6⟩
    generalize hh6 : (readL l).1 = hd6 at *
    have HH6 := Aside0.mk hh6
    clear hh6
    generalize hx6 : (readL l).2 = e6 at *
    have HX6 := Aside0.mk hx6
    clear hx6
    generalize hev6 : errV E e6 = ev6
    have HEV6 := Aside0.mk hev6
    clear hev6
    obtain ⟨z0, z1, z2, z3, z4, z5⟩ := hd6
    simp only [Hdr.cells]
    obtain ⟨hB5, hC4, hC5⟩ := HQ.out
    have hb6' := below_alloc hb6 (.cells #[.int .i64 z0, .int .i64 z1, .int .i64 z2, .int .i64 z3, .int .u32 z4, .int .u32 z5] 25)
    have hu6 := heap_alloc_new w6 (.cells #[.int .i64 z0, .int .i64 z1, .int .i64 z2, .int .i64 z3, .int .u32 z4, .int .u32 z5] 25)
    have hB6 := reach_to hB5 hB5.size hb6'
    have hC4' := Kd.C_below hC4 hb6'
    have hC5' := Kd.C_below hC5 hb6'
    clear HQ hB5 hC4 hC5 hb6 hb6'
    have HQ := Aside0.mk (And.intro hB6 (And.intro hC4' (And.intro hC5' hu6)))
    clear hB6 hC4' hC5' hu6
    go_wp2_with fail
    obtain ⟨hB6, hC4, hC5, hu6⟩ := HQ.out
    clear HQ
    generalize w6.alloc (.cells #[.int .i64 z0, .int .i64 z1, .int .i64 z2, .int .i64 z3, .int .u32 z4, .int .u32 z5] 25) = W6 at *
    obtain ⟨b6, hb6⟩ : ∃ b6, b6 = w6.heap.size := ⟨_, rfl⟩
    rw [← hb6] at hu6 ⊢
    clear hb6
    refine (refRead_any A n c l W6 (Kd.C_below HW.out.2.2.1 hB6) HW.out.2.2.2.1 HW.out.2.2.2.2.1 (by omega)).mono ?_
    rintro e w7 ⟨rfl, hb7⟩
    rw [HH6.out, HX6.out]
    simp only [Hdr.cells]
    generalize hk6 : codeOf e6 = n6
    have HK6 := Aside0.mk hk6
    clear hk6
    have hb7' := below_alloc hb7 (.cells #[.int .i64 z0, .int .i64 z1, .int .i64 z2, .int .i64 z3, .int .u32 z4, .int .u32 z5] 34)
    have hu7 := heap_alloc_new w7 (.cells #[.int .i64 z0, .int .i64 z1, .int .i64 z2, .int .i64 z3, .int .u32 z4, .int .u32 z5] 34)
    replace hu6 := blk_below hu6 hb7'
    have hB7 := reach_to hB6 hB6.size hb7'
    have hC4' := Kd.C_below hC4 hb7'
    have hC5' := Kd.C_below hC5 hb7'
    clear hB6 hC4 hC5 hb7 hb7'
    have HQ := Aside0.mk (And.intro hB7 (And.intro hC4' (And.intro hC5' (And.intro hu6 hu7))))
    clear hB7 hC4' hC5' hu6 hu7
    go_wp2_with fail
    obtain ⟨hB7, hC4, hC5, hu6, hu7⟩ := HQ.out
    clear HQ
    generalize w7.alloc (.cells #[.int .i64 z0, .int .i64 z1, .int .i64 z2, .int .i64 z3, .int .u32 z4, .int .u32 z5] 34) = W7 at *
    obtain ⟨b7, hb7⟩ : ∃ b7, b7 = w7.heap.size := ⟨_, rfl⟩
    rw [← hb7] at hu7 ⊢
    clear hb7
    refine (ipHop_any E A n c l W7 ((HW.out.2.1.below hB7).sub ip_ord) (Kd.C_below HW.out.2.2.1 hB7) HW.out.2.2.2.1 HW.out.2.2.2.2.1 (by omega)).mono ?_
    rintro e w8 ⟨v8, rfl, hR8, hb8⟩
    obtain ⟨A8, c8, rfl, hle8, hC8⟩ := Kd.R_reads hR8
    generalize hx8 : (hopL l).2 = e8 at *
    have HX8 := Aside0.mk hx8
    clear hx8
    generalize hl8 : (hopL l).1 = b8 at *
    have HL8 := Aside0.mk hl8
    clear hl8
    generalize hev8 : errV E e8 = ev8
    have HEV8 := Aside0.mk hev8
    clear hev8
    replace hu6 := blk_below hu6 hb8
    replace hu7 := blk_below hu7 hb8
    have hB8 := reach_to hB7 hB7.size hb8
    have hC4' := Kd.C_below hC4 hb8
    have hC5' := Kd.C_below hC5 hb8
    clear hB7 hC4 hC5 hb8 hR8
    have HQ := Aside0.mk (And.intro hB8 (And.intro hC4' (And.intro hC5' (And.intro hu6 (And.intro hu7 hC8)))))
    clear hB8 hC4' hC5' hu6 hu7 hC8
    go_wp2_with fail
    refine (refHop_any A n c l w8 (Kd.C_below HW.out.2.2.1 HQ.out.1) HW.out.2.2.2.1 HW.out.2.2.2.2.1 (by omega)).mono ?_
    rintro e w9 ⟨v9, rfl, hR9, hb9⟩
    rw [HX8.out]
    rw [HL8.out] at hR9
    obtain ⟨A9, c9, rfl, hle9, hC9⟩ := Kd.R_reads hR9
    generalize hk8 : codeOf e8 = n8
    have HK8 := Aside0.mk hk8
    clear hk8
    obtain ⟨hB8, hC4, hC5, hu6, hu7, hC8⟩ := HQ.out
    clear HQ
    replace hu6 := blk_below hu6 hb9
    replace hu7 := blk_below hu7 hb9
    have hB9 := reach_to hB8 hB8.size hb9
    have hC4' := Kd.C_below hC4 hb9
    have hC5' := Kd.C_below hC5 hb9
    have hC8' := Kd.C_below hC8 hb9
    clear hB8 hC4 hC5 hC8 hb9 hR9
    have HQ := Aside0.mk (And.intro hB9 (And.intro hC4' (And.intro hC5' (And.intro hu6 (And.intro hu7 (And.intro hC8' hC9))))))
    clear hB9 hC4' hC5' hu6 hu7 hC8' hC9
    go_wp2_with fail
    rw [← HEV3.out, ← HK3.out]
    refine (is_self E e3 HW.out.2.2.2.2.2.2.2.1 w9 (HW.out.2.1.below HQ.out.1)).mono ?_
    rintro e w10 ⟨rfl, hb10⟩
    rw [HEV3.out, HK3.out]
    have H10 := Aside0.mk hb10
    clear hb10
    go_wp2_with fail
    refine (sameb_self A3 A5 _ _ c3 c5 b3 w10 (Kd.C_below HQ.out.2.1 H10.out) (Kd.C_below HQ.out.2.2.1 H10.out) (by have := HW.out.2.2.2.2.2.1; omega)).mono ?_
    rintro e w11 ⟨rfl, hb11⟩
    have H11 := Aside0.mk (reach_to H10.out H10.out.size hb11)
    clear hb11
    go_wp2_with fail
    rw [← HEV6.out, ← HK6.out]
    refine (is_self E e6 HW.out.2.2.2.2.2.2.2.2.1 w11 (HW.out.2.1.below (reach_to HQ.out.1 HQ.out.1.size H11.out))).mono ?_
    rintro e w12 ⟨rfl, hb12⟩
    rw [HEV6.out, HK6.out]
    have H12 := Aside0.mk (reach_to H11.out H11.out.size hb12)
    clear hb12
    have hv6 := blk_below HQ.out.2.2.2.1 H12.out
    have hv7 := blk_below HQ.out.2.2.2.2.1 H12.out
    have p0 := (blk_cell hv6 0).trans rfl
    have p1 := (blk_cell hv6 1).trans rfl
    have p2 := (blk_cell hv6 2).trans rfl
    have p3 := (blk_cell hv6 3).trans rfl
    have p4 := (blk_cell hv6 4).trans rfl
    have p5 := (blk_cell hv6 5).trans rfl
    have q0 := (blk_cell hv7 0).trans rfl
    have q1 := (blk_cell hv7 1).trans rfl
    have q2 := (blk_cell hv7 2).trans rfl
    have q3 := (blk_cell hv7 3).trans rfl
    have q4 := (blk_cell hv7 4).trans rfl
    have q5 := (blk_cell hv7 5).trans rfl
    clear hv6 hv7
    go_wp2_with fail
    clear p0 p1 p2 p3 p4 p5 q0 q1 q2 q3 q4 q5
    refine (same3_yes ⟨z0, z1, z2, z3, z4, z5⟩ w12).mono ?_
    rintro e w13 ⟨rfl, hb13⟩
    have H13 := Aside0.mk (reach_to H12.out H12.out.size hb13)
    clear hb13
    go_wp2_with fail
    rw [← HEV8.out, ← HK8.out]
    refine (is_self E e8 HW.out.2.2.2.2.2.2.2.2.2 w13 (HW.out.2.1.below (reach_to HQ.out.1 HQ.out.1.size H13.out))).mono ?_
    rintro e w14 ⟨rfl, hb14⟩
    rw [HEV8.out, HK8.out]
    have H14 := Aside0.mk (reach_to H13.out H13.out.size hb14)
    clear hb14
    go_wp2_with fail
    refine (sameb_self A8 A9 _ _ c8 c9 b8 w14 (Kd.C_below HQ.out.2.2.2.2.2.1 H14.out) (Kd.C_below HQ.out.2.2.2.2.2.2 H14.out) (by have := HW.out.2.2.2.2.2.2.1; omega)).mono ?_
    rintro e w15 ⟨rfl, hb15⟩
    have H15 := Aside0.mk (reach_to H14.out H14.out.size hb15)
    clear hb15
    go_wp2
    go_ret
    exact ⟨rfl, reach_to HQ.out.1 HQ.out.1.size H15.out⟩
end Go.Proofs.YtbgbplbkombfjaaDoor
