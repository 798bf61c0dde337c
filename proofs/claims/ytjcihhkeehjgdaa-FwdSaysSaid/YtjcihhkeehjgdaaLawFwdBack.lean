/- FwdBack: the walk of the law. -/
import Derived.Test.YtjcihhkeehjgdaaFwdRef
import Derived.Deep.RegionWith
import Derived.Deep.RegionHeld3
namespace Go.Proofs.Ytjcihhkeehjgdaa
open Go.RowKit Go.Proofs.YtjcihhkeehjgdaaW.PrintWords Ytjcihhkeehjgdaa.PFwdSays
set_option linter.unusedVariables false
set_option linter.unusedSimpArgs false
attribute [local go_sem high] eqA69 eqA82 field75
theorem light_any (A B : Option Addr) (n m c d : Nat) (l : List S78) (x : List S82) (w : World) (ha : Kd.C k78 w A n l) (hb : Kd.C k82 w B m x) (hc : n ≤ c) (hd : m ≤ d) :
    Calls Try.prog 36 #[.slice A n c, .slice B m d] w fun e w' => e = .returned (.bool (lightB l x)) ∧ Drawn0 w w' := by
  obtain rfl := ha.1
  obtain rfl := hb.1
  have := light_l l x l.length 0 (by omega) (by have := ha.2.1; omega)
  exact rivuletlaw19_light.calls (l.length + 1) A c l B d x _ w ha hc hb hd (by unfold rivuletlaw19_light.f lightB; simpa using this)
theorem cells_kept {w w' : World} {p : Addr} {v : Value} (hb : Below w.heap.size w w') (h : w.cell? p = some v) : w'.cell? p = some v := pw_cell_below hb h
theorem kept_lost {x : List S82} {port s g q : Int} (h : leftOut x port s g q = false) : q ≠ port ∧ ∀ y ∈ x, y.f0 = q → (y.f1.f0 == s && y.f1.f1 == g) = false := by
  unfold leftOut at h
  rw [Bool.or_eq_false_iff] at h
  refine ⟨beq_eq_false_iff_ne.1 h.1, fun y hy e => ?_⟩
  have := List.any_eq_false.1 h.2 y hy
  unfold lostEq at this
  rw [e, beq_self_eq_true, Bool.true_and] at this
  rw [Bool.eq_false_iff]
  intro e2
  apply this
  simp at e2 ⊢
  exact ⟨e2.1.symm, e2.2.symm⟩
theorem among_below (A : Option Addr) (n c : Nat) (a : List Int) (q : Int) (w : World) (ha : Kd.C (Kd.int .i64) w A n a) (hc : n ≤ c) (hm : a.length ≤ 1000000) :
    Calls Try.prog 40 #[.slice A n c, .int .i64 q] w fun e w' => e = .returned (.bool (a.any (fun x => x == q))) ∧ Below w.heap.size w w' :=
  (among_any A n c a q w ha hc hm).mono fun e w' ⟨he, m, hw⟩ => ⟨he, by rw [hw]; exact pw_below_drewN (Below.refl _ _) m⟩
set_option maxHeartbeats 8000000 in
set_option maxRecDepth 100000 in
theorem fwdBack_all (router : Int) (A Ax : Option Addr) (n nx c cx : Nat) (l : List S78) (x : List S82) (s g port : Int) (w : World) (hr : Kd.C k78 w A n l) (hx : Kd.C k82 w Ax nx x) (hle : n ≤ c) (hlx : nx ≤ cx) :
    Calls Try.prog 11 #[.int .i64 router, .slice A n c, .slice Ax nx cx, .agg #[.int .u32 s, .int .u32 g, .int .i64 port]] w fun e w' => e = .returned (.bool true) ∧ Below w.heap.size w w' := by
  have hu78 := Try.underlying78
  have hu69 := Try.underlying69
  have hu71 := Try.underlying71
  have hu75 := Try.underlying75
  have hu82 := Try.underlying82
  obtain ⟨O, hO⟩ : ∃ O, O = Obj.cells #[.int .u32 s, .int .u32 g, .int .i64 port] 71 (0, 0) := ⟨_, rfl⟩
  have HO := Aside0.mk hO
  have hb0 := Below.alloc (Below.refl w.heap.size w) (Nat.le_refl _) O
  have h0 := (heap_alloc_new w O).trans (congrArg some hO)
  have hs0 : (w.alloc O).heap.size = w.heap.size + 1 := by simp
  have hC0 := Kd.C_below hr hb0
  have hX0 := Kd.C_below hx hb0
  have HS := Aside0.mk (And.intro hb0 (And.intro h0 (And.intro hs0 (And.intro hC0 hX0))))
  clear hO hb0 h0 hs0 hC0 hX0 hr hx
  go_enter Try.func11, Try.ntmps11
  go_wp2_with fail
  have hO := HO.out
  rw [← hO]
  obtain ⟨hb0, h0, hs0, hC0, hX0⟩ := HS.out
  clear HO HS hO
  generalize w.alloc O = W at *
  obtain ⟨b, hbw⟩ : ∃ b, b = w.heap.size := ⟨_, rfl⟩
  rw [← hbw] at h0 hs0 ⊢
  have HW := Aside0.mk hbw
  clear hbw
  refine (first19_any W).mono ?_
  rintro e w2 ⟨rfl, hb2⟩
  have hB2 := below_then hb0 (by have := HW.out; omega) hb2
  have hC2 := Kd.C_below hC0 hb2
  have hX2 := Kd.C_below hX0 hb2
  have h2 := blk_below h0 hb2
  have hs2 := hb2.size
  clear hb0 hb2 hC0 hX0 h0
  have HF2 := Aside0.mk (And.intro hB2 (And.intro hC2 (And.intro hX2 h2)))
  clear hB2 hC2 hX2 h2
  go_wp2_with fail
  obtain ⟨hB2, hC2, hX2, h2⟩ := HF2.out
  clear HF2
  refine (light_any A Ax n nx c cx l x w2 hC2 hX2 hle hlx).mono ?_
  rintro e w3 ⟨rfl, m, rfl⟩
  have hB3 := pw_below_drewN hB2 m
  have hb3 := pw_below_drewN (Below.refl w2.heap.size w2) m
  have hC3 := Kd.C_below hC2 hb3
  have hX3 := Kd.C_below hX2 hb3
  have h3 := blk_below h2 hb3
  have hs3 := hb3.size
  generalize w2.drewN m = W3 at *
  clear hB2 hC2 hX2 h2 hb3
  cases hli : lightB l x with
  | false =>
    clear hC3 hX3 h3
    go_wp2
    go_ret
    exact ⟨rfl, hB3⟩
  | true =>
    have hl12 : ∀ y ∈ l, y.f4.length ≤ 12 := by
      intro y hy
      unfold lightB at hli
      rw [Bool.and_eq_true, List.all_eq_true] at hli
      simpa using hli.1 y hy
    have hlm : ∀ y ∈ l, y.f4.length ≤ 1000000 := fun y hy => Nat.le_trans (hl12 y hy) (by decide)
    have HL := Aside0.mk (And.intro hl12 hlm)
    have hx20 : nx ≤ 20 := by
      rw [← hX3.1]
      unfold lightB at hli
      rw [Bool.and_eq_true, Bool.and_eq_true] at hli
      simpa using hli.2.2
    clear hl12 hlm hli
    have p0 := (blk_cell h3 0).trans rfl
    have p1 := (blk_cell h3 1).trans rfl
    have p2 := (blk_cell h3 2).trans rfl
    have HF3 := Aside0.mk (And.intro hB3 (And.intro hC3 (And.intro hX3 h3)))
    clear hB3 hC3 hX3 h3
    go_wp2_with fail
    obtain ⟨hB3, hC3, hX3, h3⟩ := HF3.out
    clear HF3 p0 p1 p2
    refine (do_any A Ax n c nx cx l x router s g port W3 hC3 hX3 HL.out.2).mono ?_
    rintro e w4 ⟨Ao, no, co, rfl, hleo, hCo, hb4⟩
    obtain ⟨dk, ds, dg, dout, hd⟩ : ∃ dk ds dg dout, deed l x router s g port = ⟨dk, ds, dg, dout⟩ := ⟨_, _, _, _, rfl⟩
    rw [hd] at hCo ⊢
    have HD := Aside0.mk hd
    simp only at hCo ⊢
    clear hd
    have hC4 := Kd.C_below hC3 hb4
    have hX4 := Kd.C_below hX3 hb4
    have h4 := blk_below h3 hb4
    have hB4 := below_then hB3 hB3.size hb4
    have hs4 := hb4.size
    clear hb4 hC3 hX3 h3 hB3
    obtain ⟨O4, hO4⟩ : ∃ O, O = Obj.cells #[.int .i64 dk, .int .u32 ds, .int .u32 dg, .slice Ao no co] 75 (0, 0) := ⟨_, rfl⟩
    have HO4 := Aside0.mk hO4
    have hb5 := Below.alloc (Below.refl w4.heap.size w4) (Nat.le_refl _) O4
    have hn5 := (heap_alloc_new w4 O4).trans (congrArg some hO4)
    have hs5 : (w4.alloc O4).heap.size = w4.heap.size + 1 := by simp
    have hC5 := Kd.C_below hC4 hb5
    have hX5 := Kd.C_below hX4 hb5
    have hCo5 := Kd.C_below hCo hb5
    have h5 := blk_below h4 hb5
    have hB5 := below_then hB4 hB4.size hb5
    have p0 := (blk_cell h4 0).trans rfl
    have p1 := (blk_cell h4 1).trans rfl
    have HF5 := Aside0.mk (And.intro hn5 (And.intro hs5 (And.intro hC5 (And.intro hX5 (And.intro hCo5 (And.intro h5 hB5))))))
    have hbl4 : b < w4.heap.size := by omega
    clear hO4 hb5 hn5 hs5 hC5 hX5 hCo5 h5 hB5 hC4 hX4 h4 hB4 hCo
    go_wp2_with fail
    have hO4 := HO4.out
    rw [← hO4]
    obtain ⟨hn5, hs5, hC5, hX5, hCo5, h5, hB5⟩ := HF5.out
    clear HF5 HO4 hO4 p0 p1
    generalize w4.alloc O4 = W5 at *
    refine (row_any A n c l router s g W5 hC5 HL.out.2).mono ?_
    rintro e w6 ⟨v, rfl, hown, hb6⟩
    have hX6 := Kd.C_below hX5 hb6
    have hCo6 := Kd.C_below hCo5 hb6
    have h6 := blk_below h5 hb6
    have hn6 := blk_below hn5 hb6
    have hB6 := below_then hB5 hB5.size hb6
    have hs6 := hb6.size
    obtain ⟨A6, c6, rfl⟩ := Kd.R_slice hown
    have hC6 := R_C hown
    obtain ⟨gd, hgd⟩ : ∃ gd, gd = w4.heap.size := ⟨_, rfl⟩
    rw [← hgd] at hn6 hs4 hs5 hbl4 ⊢
    clear hgd hn5 hb6 hown hX5 hCo5 h5 hB5 hC5
    have p0 := (blk_cell h6 0).trans rfl
    have p1 := (blk_cell h6 1).trans rfl
    have p2 := (blk_cell h6 2).trans rfl
    have d0 := (blk_cell hn6 0).trans rfl
    have d1 := (blk_cell hn6 1).trans rfl
    have d2 := (blk_cell hn6 2).trans rfl
    have d3 := (blk_cell hn6 3).trans rfl
    have hbl : b < w6.heap.size := by omega
    have hgl : gd < w6.heap.size := by omega
    have hcol := Aside0.mk hCo6.1
    cases hu : usedOf l router s g with
    | none =>
      have e : (⟨dk, ds, dg, dout⟩ : SDeed) = ⟨0, 0, 0, []⟩ := by rw [← HD.out]; unfold deed; rw [hu]
      injection e with e1 e2 e3 e4
      subst e1 e2 e3 e4
      have hno : no = 0 := by have := hCo6.1; simpa using this.symm
      subst hno
      simp only [cells78, rowAt, Option.isSome_none]
      clear hX6 hCo6 h6 hn6 hC6
      go_wp2
      go_ret
      exact ⟨rfl, hB6.alloc hB6.size _⟩
    | some k =>
      rw [hu] at hC6
      obtain ⟨y, hy⟩ : ∃ y, y = l.getD k z78 := ⟨_, rfl⟩
      simp only [rowAt] at hC6
      simp only [cells78, rowAt, Option.isSome_some]
      have hdd : (⟨dk, ds, dg, dout⟩ : SDeed) = if y.f1 = port then ⟨2, y.f3.f0, y.f3.f1, y.f4.filter (fun q => !leftOut x port s g q)⟩ else ⟨1, y.f3.f0, y.f3.f1, []⟩ := by rw [← HD.out]; unfold deed; rw [hu, hy]
      have hkey : (y.f3.f0 == s || y.f3.f0 == 0) = true := by
        unfold usedOf at hu
        cases hf : firstOf (rowIs router s g) l with
        | some k' =>
          rw [hf] at hu
          injection hu with hu
          subst hu
          have := firstOf_holds z78 hf
          rw [← hy] at this
          unfold rowIs at this
          simp at this
          simp [this.2.1]
        | none =>
          rw [hf] at hu
          have := firstOf_holds z78 hu
          rw [← hy] at this
          unfold rowIs at this
          simp at this
          simp [this.2.1]
      have hy12 : y.f4.length ≤ 12 := HL.out.1 y (by
        have hk : k < l.length := by
          unfold usedOf at hu
          cases hf : firstOf (rowIs router s g) l with
          | some k' => rw [hf] at hu; injection hu with hu; subst hu; exact firstOf_lt hf
          | none => rw [hf] at hu; exact firstOf_lt hu
        rw [hy, List.getD_eq_getElem?_getD, List.getElem?_eq_getElem hk]
        exact List.getElem_mem _)
      rw [← hy] at hC6 ⊢
      clear hy hu
      obtain ⟨y0, y1, y2, ⟨y3, y4⟩, y5⟩ := y
      simp only at hC6 hdd hkey hy12 ⊢
      by_cases e : y1 = port
      · rw [if_pos e] at hdd
        injection hdd with e1 e2 e3 e4
        subst y1
        subst e1 e2 e3
        have HDO := Aside0.mk e4
        have hlen : dout.length ≤ 12 := by rw [e4]; exact Nat.le_trans (List.length_filter_le _ _) hy12
        have hnl : no ≤ 12 := by rw [← hCo6.1]; exact hlen
        clear e4
        obtain ⟨O7, hO7⟩ : ∃ O, O = Obj.cells #[.int .i64 y0, .int .i64 port, .int .i64 y2, .int .u32 ds, .int .u32 dg, .slice A6 y5.length c6] 78 (0, 0) := ⟨_, rfl⟩
        have HO7 := Aside0.mk hO7
        have hb7 := Below.alloc (Below.refl w6.heap.size w6) (Nat.le_refl _) O7
        have hr7 := (heap_alloc_new w6 O7).trans (congrArg some hO7)
        have hs7 : (w6.alloc O7).heap.size = w6.heap.size + 1 := by simp
        have HF7 := Aside0.mk (And.intro hr7 (And.intro hs7 (And.intro (Kd.C_below hX6 hb7) (And.intro (Kd.C_below hCo6 hb7) (And.intro (Kd.C_below hC6.2 hb7) (And.intro (blk_below h6 hb7) (And.intro (blk_below hn6 hb7) (below_then hB6 hB6.size hb7))))))))
        have HCA := Aside0.mk hC6.1
        clear hO7 hb7 hr7 hs7 hX6 hCo6 hC6 h6 hn6 hB6
        go_wp2_with fail
        have hO7 := HO7.out
        rw [← hO7]
        obtain ⟨hr7, hs7, hX7, hCo7, hC7, h7, hn7, hB7⟩ := HF7.out
        clear HF7 HO7 hO7 p0 p1 p2 d0 d1 d2 d3
        obtain ⟨gr, hgr⟩ : ∃ gr, gr = w6.heap.size := ⟨_, rfl⟩
        rw [← hgr] at hr7 hs7 hbl hgl ⊢
        generalize w6.alloc O7 = W7 at *
        clear hgr
        have hB7w := hB7.size
        have HB7 := Aside0.mk hB7
        have HX7 := Aside0.mk hX7
        have HCo7 := Aside0.mk hCo7
        have HC7 := Aside0.mk hC7
        have HBL := Aside0.mk (And.intro h7 (And.intro hn7 hr7))
        have p0 := (blk_cell h7 0).trans rfl
        have p1 := (blk_cell h7 1).trans rfl
        have p2 := (blk_cell h7 2).trans rfl
        have d0 := (blk_cell hn7 0).trans rfl
        have d1 := (blk_cell hn7 1).trans rfl
        have d2 := (blk_cell hn7 2).trans rfl
        have d3 := (blk_cell hn7 3).trans rfl
        have r1 := (blk_cell hr7 1).trans rfl
        have r3 := (blk_cell hr7 3).trans rfl
        have r4 := (blk_cell hr7 4).trans rfl
        have r5 := (blk_cell hr7 5).trans rfl
        clear h7 hn7 hr7 hB7 hX7 hCo7 hC7
        go_loopg [13] no (fun k i w' => ∃ j : Nat, j + k = no ∧ i = .int .i64 j ∧ Below W7.heap.size W7 w')
        case atStart => exact ⟨0, by omega, rfl, Below.refl _ _⟩
        case round =>
          obtain ⟨j, hj, rfl, hbel⟩ := hrel
          have hs := hbel.size
          by_cases hlt : j < no
          · have P0 := pw_cell_below hbel p0
            have P1 := pw_cell_below hbel p1
            have P2 := pw_cell_below hbel p2
            have D3 := pw_cell_below hbel d3
            have R5 := pw_cell_below hbel r5
            have HP := Aside0.mk (And.intro P0 (And.intro P1 (And.intro P2 (And.intro D3 R5))))
            obtain ⟨ado, q, rfl, hq, HQ⟩ := at_nat (Kd.C_below HCo7.out hbel) j hlt
            have hql : leftOut x port s g q = false := by
              have hjl : j < dout.length := by rw [HCo7.out.1]; exact hlt
              have hmem : q ∈ dout := by
                rw [HQ.out, List.getD_eq_getElem?_getD, List.getElem?_eq_getElem hjl]
                exact List.getElem_mem _
              rw [HDO.out, List.mem_filter] at hmem
              simpa using hmem.2
            have hqa : y5.any (fun z => z == q) = true := by
              have hjl : j < dout.length := by rw [HCo7.out.1]; exact hlt
              have hmem : q ∈ dout := by
                rw [HQ.out, List.getD_eq_getElem?_getD, List.getElem?_eq_getElem hjl]
                exact List.getElem_mem _
              rw [HDO.out, List.mem_filter] at hmem
              rw [List.any_eq_true]
              exact ⟨q, hmem.1, by simp⟩
            have HK := Aside0.mk (kept_lost hql)
            have HA := Aside0.mk hqa
            have HBO := Aside0.mk hbel
            have HXO := Aside0.mk (Kd.C_below HX7.out hbel)
            clear hql hqa hbel p0 p1 p2 d0 d1 d2 d3 r1 r3 r4 r5
            go_wp2_with fail
            obtain ⟨wo, hwo⟩ : ∃ wo : World, wo = wr := ⟨_, rfl⟩
            subst hwo
            obtain ⟨ko, hko⟩ : ∃ ko : Nat, ko = gk := ⟨_, rfl⟩
            subst hko
            go_loopg [14] nx (fun k i w' => ∃ t : Nat, t + k = nx ∧ i = .int .i64 t ∧ Below wo.heap.size wo w')
            case atStart => exact ⟨0, by omega, rfl, Below.refl _ _⟩
            case round =>
              obtain ⟨t, ht, rfl, hbi⟩ := hrel
              have hsi := hbi.size
              have P0' := pw_cell_below hbi P0
              have P1' := pw_cell_below hbi P1
              have P2' := pw_cell_below hbi P2
              have D3' := pw_cell_below hbi D3
              have R5' := pw_cell_below hbi R5
              have hq' := pw_cell_below hbi hq
              have HQ' := Aside0.mk hq
              clear P0 P1 P2 D3 R5 hq
              by_cases hlt2 : t < nx
              · obtain ⟨adx, z, rfl, h0, h1, h2, HZ⟩ := lost82_at (Kd.C_below HXO.out hbi) t hlt2
                have hzm : z ∈ x := by
                  have htl : t < x.length := by rw [HXO.out.1]; exact hlt2
                  rw [HZ.out, List.getD_eq_getElem?_getD, List.getElem?_eq_getElem htl]
                  exact List.getElem_mem _
                have hzk := HK.out.2 z hzm
                clear hzm R5' P2'
                have HBI := Aside0.mk hbi
                clear hbi
                obtain ⟨z0, ⟨z1, z2⟩⟩ := z
                simp only at h0 h1 h2 hzk
                by_cases ez : z0 = q
                · have hk := hzk ez
                  subst z0
                  have HKK := Aside0.mk hk
                  clear hzk hk
                  go_wp2_with fail
                  go_region_held3 (fun w' => w'.cell? (adx.add (t * 3)) = some (.int .i64 q) ∧ w'.cell? ⟨(adx.add (t * 3)).block, (adx.add (t * 3)).off + 1, none⟩ = some (.int .u32 z1) ∧ w'.cell? ⟨(adx.add (t * 3)).block, (adx.add (t * 3)).off + 2, none⟩ = some (.int .u32 z2) ∧ w'.cell? ⟨b, 0, none⟩ = some (.int .u32 s) ∧ w'.cell? ⟨b, 1, none⟩ = some (.int .u32 g) ∧ w'.cell? ⟨gd, 3, none⟩ = some (.slice (some ado) no co) ∧ w'.cell? (ado.add j) = some (.int .i64 q) ∧ Below wr.heap.size wr w') (refine ⟨?_, ?_, ?_, ?_, ?_, ?_, ?_, ?_⟩ <;> first | assumption | exact Below.refl _ _ | (refine below_drew ?_; assumption) | (refine below_drew ?_; exact Below.refl _ _))
                    (first | (go_at_call 39; refine (sameKey_any z1 z2 s g _).mono ?_; rintro e w2 ⟨rfl, hb2⟩; have hb3 : Below wr.heap.size wr w2 := (by first | exact below_then (below_drew (Below.refl _ _)) (Nat.le_refl _) hb2 | exact below_then ‹Below wr.heap.size wr _› (Below.size ‹Below wr.heap.size wr _›) hb2); have s0 := pw_cell_below hb3 h0; have s1 := pw_cell_below hb3 h1; have s2 := pw_cell_below hb3 h2; have s3 := pw_cell_below hb3 P0'; have s4 := pw_cell_below hb3 P1'; have s5 := pw_cell_below hb3 D3'; have s6 := pw_cell_below hb3 hq'))
                  have hb9 := below_then HBI.out hsi hb3
                  rw [HKK.out]
                  go_wp2
                  go_roundg (gk - 1)
                  case measure => omega
                  case rel => exact ⟨t + 1, by omega, by go_num, hb9⟩
                · have ez1 : (z0 == q) = false := beq_eq_false_iff_ne.2 ez
                  clear hzk
                  go_wp2_with fail
                  go_quiet (fail)
                  go_wp2
                  go_roundg (gk - 1)
                  case measure => omega
                  case rel => exact ⟨t + 1, by omega, by go_num, pw_below_drewN HBI.out _⟩
              · obtain rfl : t = nx := by omega
                have hqp := HK.out.1
                have eqp : (q == port) = false := beq_eq_false_iff_ne.2 hqp
                have hC8 := Kd.C_below HC7.out HBO.out
                have HC8 := Aside0.mk (Kd.C_below hC8 hbi)
                have HBI := Aside0.mk hbi
                clear hC8 hqp hbi
                go_wp2_with fail
                go_region_held3 (fun w' => w'.cell? ⟨b, 2, none⟩ = some (.int .i64 port) ∧ w'.cell? ⟨gd, 3, none⟩ = some (.slice (some ado) no co) ∧ w'.cell? (ado.add j) = some (.int .i64 q) ∧ w'.cell? ⟨gr, 5, none⟩ = some (.slice A6 y5.length c6) ∧ Below wr.heap.size wr w') (refine ⟨?_, ?_, ?_, ?_, ?_⟩ <;> first | assumption | exact Below.refl _ _ | (refine below_drew ?_; assumption) | (refine below_drew ?_; exact Below.refl _ _))
                  (first | (go_at_call 40; refine (among_below A6 _ c6 y5 q _ (by first | exact Kd.C_below HC8.out (below_drew (Below.refl _ _)) | exact Kd.C_below HC8.out ‹Below wr.heap.size wr _›) HCA.out (by omega)).mono ?_; rintro e w2 ⟨rfl, hb2⟩; have hb3 : Below wr.heap.size wr w2 := (by first | exact below_then (below_drew (Below.refl _ _)) (Nat.le_refl _) hb2 | exact below_then ‹Below wr.heap.size wr _› (Below.size ‹Below wr.heap.size wr _›) hb2); have s0 := pw_cell_below hb3 P2'; have s1 := pw_cell_below hb3 D3'; have s2 := pw_cell_below hb3 hq'; have s3 := pw_cell_below hb3 R5'))
                have hb9 := below_then (below_then HBO.out HBO.out.size HBI.out) (Nat.le_trans HBO.out.size hsi) hb3
                rw [HA.out]
                go_wp2
                go_roundg (ko - 1)
                case measure => omega
                case rel => exact ⟨j + 1, by omega, by go_num, hb9⟩
          · obtain rfl : j = no := by omega
            have P0 := pw_cell_below hbel p0
            have P2 := pw_cell_below hbel p2
            have D1 := pw_cell_below hbel d1
            have D2 := pw_cell_below hbel d2
            have D3 := pw_cell_below hbel d3
            have R1 := pw_cell_below hbel r1
            have R3 := pw_cell_below hbel r3
            have R4 := pw_cell_below hbel r4
            have HBO := Aside0.mk hbel
            clear p0 p1 p2 d0 d1 d2 d3 r1 r3 r4 r5 hbel
            go_wp2_with fail
            refine (sameKey_any ds dg ds dg _).mono ?_
            rintro e w8 ⟨rfl, hb8⟩
            rw [beq_self_eq_true, beq_self_eq_true, Bool.and_self]
            replace P0 := pw_cell_below hb8 P0
            replace R3 := pw_cell_below hb8 R3
            have HB8 := Aside0.mk (below_then HBO.out hs hb8)
            clear hb8 P2 D1 D2 D3 R1 R4
            cases hds : (ds == s) with
            | true =>
              clear hkey
              go_wp2_with fail
              refine (PFwdBack.rivuletworld_Number.calls 1 2 1 _ (by decide)).mono ?_
              rintro e w9 ⟨rfl, m9, rfl⟩
              go_wp2
              go_ret
              exact ⟨rfl, below_then (below_then HB7.out HB7.out.size HB8.out) (by have := HB8.out.size; omega) (pw_below_drewN (Below.refl _ _) m9)⟩
            | false =>
              rw [hds, Bool.false_or] at hkey
              go_wp2_with fail
              refine (PFwdBack.rivuletworld_Number.calls 1 2 1 _ (by decide)).mono ?_
              rintro e w9 ⟨rfl, m9, rfl⟩
              go_wp2
              go_ret
              exact ⟨rfl, below_then (below_then HB7.out HB7.out.size HB8.out) (by have := HB8.out.size; omega) (pw_below_drewN (Below.refl _ _) m9)⟩
      · rw [if_neg e] at hdd
        injection hdd with e1 e2 e3 e4
        subst e1 e2 e3 e4
        have hno : no = 0 := by have := hCo6.1; simpa using this.symm
        subst hno
        have q1 : (y1 != port) = true := bne_iff_ne.2 e
        clear hX6 hCo6 h6 hn6 hC6
        go_wp2
        go_ret
        exact ⟨rfl, hB6.alloc hB6.size _⟩
end Go.Proofs.Ytjcihhkeehjgdaa
