/- FwdSays: the walk of the law. -/
import Derived.Test.YtjcihhkeehjgdaaLawFwdBack
import Derived.Test.YtjcihhkeehjgdaaFwdOther
import Derived.Deep.DeepCutAuto
namespace Go.Proofs.Ytjcihhkeehjgdaa
open Go.RowKit Go.Proofs.YtjcihhkeehjgdaaW.PrintWords Ytjcihhkeehjgdaa.PFwdSays
set_option linter.unusedVariables false
set_option linter.unusedSimpArgs false
attribute [local go_sem high] eqA69 eqA82 field75
theorem refDo_at (A B : Option Addr) (n c m d : Nat) (L : List S78) (X : List S82) (r s g port dk ds dg : Int) (dout : List Int) (hd : deed L X r s g port = ⟨dk, ds, dg, dout⟩) (w : World) (h : k104.C w A n (L.map conv)) (hle : n ≤ c) (hx : k106.C w B m (X.map convL)) (hlx : m ≤ d) (hL : L.length ≤ 1000000) (hX : X.length ≤ 1000000) (hy : ∀ y ∈ L, y.f4.length ≤ 1000000) :
    Calls Try.prog 42 #[.slice A n c, .slice B m d, .int .i64 r, .agg #[.int .u32 s, .int .u32 g], .int .i64 port] w fun e w' => ∃ Ao no co, e = .returned (.tuple #[.int .i64 dk, .agg #[.int .u32 ds, .int .u32 dg], .slice Ao no co]) ∧ (Kd.int .i64).R 3 w' 0 (fun _ => True) (.slice Ao no co) dout ∧ Below w.heap.size w w' := by
  obtain rfl := h.1
  obtain rfl := hx.1
  have hf := do_f L X r s g port hL hX hy
  rw [hd] at hf
  refine (rivuletref8_Do.calls 3000003 A c (L.map conv) B d (X.map convL) r s g port _ _ _ _ w h hle hx hlx hf).mono ?_
  rintro e w' ⟨v, rfl, hR, hb⟩
  obtain ⟨Ao, co, rfl, hlo, hC⟩ := Kd.R_reads hR
  exact ⟨Ao, _, co, rfl, Kd.R_lower hR (Nat.zero_le _), hb⟩
theorem sameKey_self (a b : Int) (w : World) : Calls Try.prog 39 #[.agg #[.int .u32 a, .int .u32 b], .agg #[.int .u32 a, .int .u32 b]] w fun e w' => e = .returned (.bool true) ∧ Below w.heap.size w w' := by
  have := sameKey_any a b a b w
  rwa [beq_self_eq_true, beq_self_eq_true, Bool.and_self] at this
theorem sameInts_self (A B : Option Addr) (n m c d : Nat) (a : List Int) (w : World) (ha : Kd.C (Kd.int .i64) w A n a) (hb : Kd.C (Kd.int .i64) w B m a) (hc : n ≤ c) (hd : m ≤ d) (hm : a.length ≤ 1000000) :
    Calls Try.prog 41 #[.slice A n c, .slice B m d] w fun e w' => e = .returned (.bool true) ∧ Below w.heap.size w w' :=
  (sameInts_any A B n m c d a a w ha hb hc hd hm).mono fun e w' ⟨he, q, hw⟩ => ⟨by rw [he, decide_eq_true rfl], by rw [hw]; exact pw_below_drewN (Below.refl _ _) q⟩
theorem ne69 : ∀ q, q ∈ (3 : Nat) :: (Kd.int .i64).E → q ≠ 69 := by
  intro q hq
  have h : q ∈ [3] := hq
  simp at h
  subst h
  decide
theorem drew_sz (w : World) : w.drew.heap.size = w.heap.size := rfl
theorem reach_alloc {a w : World} (h : Below a.heap.size a w) (o : Obj) : Below a.heap.size a (w.alloc o) := h.alloc h.size o
theorem reach_then {a w w' : World} (h : Below a.heap.size a w) (k : Below w.heap.size w w') : Below a.heap.size a w' := below_then h h.size k
set_option maxHeartbeats 8000000 in
set_option maxRecDepth 100000 in
theorem fwdSays_all (router : Int) (A Ax : Option Addr) (n nx c cx : Nat) (l : List S78) (x : List S82) (s g port : Int) (w : World) (hr : Kd.C k78 w A n l) (hx : Kd.C k82 w Ax nx x) (hle : n ≤ c) (hlx : nx ≤ cx) :
    Calls Try.prog 13 #[.int .i64 router, .slice A n c, .slice Ax nx cx, .agg #[.int .u32 s, .int .u32 g, .int .i64 port]] w fun e w' => e = .returned (.bool true) ∧ Below w.heap.size w w' := by
  have hu78 := Try.underlying78
  have hu69 := Try.underlying69
  have hu71 := Try.underlying71
  have hu75 := Try.underlying75
  have hu82 := Try.underlying82
  obtain ⟨O, hO⟩ : ∃ O, O = Obj.cells #[.int .u32 s, .int .u32 g, .int .i64 port] 71 (0, 0) := ⟨_, rfl⟩
  have HO := Aside0.mk hO
  have hb0 := Below.alloc (Below.refl w.heap.size w) (Nat.le_refl _) O
  have h0 := (heap_alloc_new w O).trans (congrArg some hO)
  have hs0 : (w.alloc O).heap.size = w.heap.size + 1 := by simp
  have hC0 := Kd.C_below hr hb0
  have hX0 := Kd.C_below hx hb0
  have HS := Aside0.mk (And.intro hb0 (And.intro h0 (And.intro hs0 (And.intro hC0 hX0))))
  clear hO hb0 h0 hs0 hC0 hX0 hr hx
  go_enter Try.func13, Try.ntmps13
  go_wp2_with fail
  have hO := HO.out
  rw [← hO]
  obtain ⟨hb0, h0, hs0, hC0, hX0⟩ := HS.out
  clear HO HS hO
  generalize w.alloc O = W at *
  obtain ⟨b, hbw⟩ : ∃ b, b = w.heap.size := ⟨_, rfl⟩
  rw [← hbw] at h0 hs0 ⊢
  have HW := Aside0.mk hbw
  clear hbw
  refine (first19_any W).mono ?_
  rintro e w2 ⟨rfl, hb2⟩
  have hB2 := below_then hb0 (by have := HW.out; omega) hb2
  have hC2 := Kd.C_below hC0 hb2
  have hX2 := Kd.C_below hX0 hb2
  have h2 := blk_below h0 hb2
  have hs2 := hb2.size
  clear hb0 hb2 hC0 hX0 h0
  have HF2 := Aside0.mk (And.intro hB2 (And.intro hC2 (And.intro hX2 h2)))
  clear hB2 hC2 hX2 h2
  go_wp2_with fail
  obtain ⟨hB2, hC2, hX2, h2⟩ := HF2.out
  clear HF2
  refine (light_any A Ax n nx c cx l x w2 hC2 hX2 hle hlx).mono ?_
  rintro e w3 ⟨rfl, m, rfl⟩
  have hB3 := pw_below_drewN hB2 m
  have hb3 := pw_below_drewN (Below.refl w2.heap.size w2) m
  have hC3 := Kd.C_below hC2 hb3
  have hX3 := Kd.C_below hX2 hb3
  have h3 := blk_below h2 hb3
  have hs3 := hb3.size
  generalize w2.drewN m = W3 at *
  clear hB2 hC2 hX2 h2 hb3
  cases hli : lightB l x with
  | false =>
    clear hC3 hX3 h3
    go_wp2
    go_ret
    exact ⟨rfl, hB3⟩
  | true =>
    have hl12 : ∀ y ∈ l, y.f4.length ≤ 12 := by
      intro y hy
      unfold lightB at hli
      rw [Bool.and_eq_true, List.all_eq_true] at hli
      simpa using hli.1 y hy
    have hlm : ∀ y ∈ l, y.f4.length ≤ 1000000 := fun y hy => Nat.le_trans (hl12 y hy) (by decide)
    have HL := Aside0.mk (And.intro hl12 hlm)
    have hx20 : nx ≤ 20 := by
      rw [← hX3.1]
      unfold lightB at hli
      rw [Bool.and_eq_true, Bool.and_eq_true] at hli
      simpa using hli.2.2
    have hn20 : n ≤ 20 := by
      rw [← hC3.1]
      unfold lightB at hli
      rw [Bool.and_eq_true, Bool.and_eq_true] at hli
      simpa using hli.2.1
    clear hl12 hlm hli
    have p0 := (blk_cell h3 0).trans rfl
    have p1 := (blk_cell h3 1).trans rfl
    have p2 := (blk_cell h3 2).trans rfl
    have HF3 := Aside0.mk (And.intro hB3 (And.intro hC3 (And.intro hX3 h3)))
    clear hB3 hC3 hX3 h3
    go_wp2_with fail
    obtain ⟨hB3, hC3, hX3, h3⟩ := HF3.out
    clear HF3 p0 p1 p2
    refine (do_any A Ax n c nx cx l x router s g port W3 hC3 hX3 HL.out.2).mono ?_
    rintro e w4 ⟨Ao, no, co, rfl, hleo, hCo, hb4⟩
    obtain ⟨dk, ds, dg, dout, hd⟩ : ∃ dk ds dg dout, deed l x router s g port = ⟨dk, ds, dg, dout⟩ := ⟨_, _, _, _, rfl⟩
    rw [hd] at hCo ⊢
    have HD := Aside0.mk hd
    simp only at hCo ⊢
    clear hd
    have hC4 := Kd.C_below hC3 hb4
    have hX4 := Kd.C_below hX3 hb4
    have h4 := blk_below h3 hb4
    have hB4 := below_then hB3 hB3.size hb4
    have hs4 := hb4.size
    clear hb4 hC3 hX3 h3 hB3
    obtain ⟨O4, hO4⟩ : ∃ O, O = Obj.cells #[.int .i64 dk, .int .u32 ds, .int .u32 dg, .slice Ao no co] 75 (0, 0) := ⟨_, rfl⟩
    have HO4 := Aside0.mk hO4
    have hb5 := Below.alloc (Below.refl w4.heap.size w4) (Nat.le_refl _) O4
    have hn5 := (heap_alloc_new w4 O4).trans (congrArg some hO4)
    have hs5 : (w4.alloc O4).heap.size = w4.heap.size + 1 := by simp
    have hC5 := Kd.C_below hC4 hb5
    have hX5 := Kd.C_below hX4 hb5
    have hCo5 := Kd.C_below hCo hb5
    have h5 := blk_below h4 hb5
    have hB5 := below_then hB4 hB4.size hb5
    have p0 := (blk_cell h4 0).trans rfl
    have p1 := (blk_cell h4 1).trans rfl
    have HF5 := Aside0.mk (And.intro hn5 (And.intro hs5 (And.intro hC5 (And.intro hX5 (And.intro hCo5 (And.intro h5 hB5))))))
    have hbl4 : b < w4.heap.size := by omega
    clear hO4 hb5 hn5 hs5 hC5 hX5 hCo5 h5 hB5 hC4 hX4 h4 hB4 hCo
    go_wp2_with fail
    have hO4 := HO4.out
    rw [← hO4]
    obtain ⟨hn5, hs5, hC5, hX5, hCo5, h5, hB5⟩ := HF5.out
    clear HF5 HO4 hO4 p0 p1
    generalize w4.alloc O4 = W5 at *
    obtain ⟨gd, hgd⟩ : ∃ gd, gd = w4.heap.size := ⟨_, rfl⟩
    rw [← hgd] at hn5 hs4 hs5 hbl4 ⊢
    clear hgd
    have hlm5 : l.length ≤ 1000000 := by rw [hC5.1]; omega
    have hxm5 : x.length ≤ 1000000 := by rw [hX5.1]; omega
    have P0 := (blk_cell h5 0).trans rfl
    have P1 := (blk_cell h5 1).trans rfl
    have P2 := (blk_cell h5 2).trans rfl
    have HC5 := Aside0.mk hC5
    have HX5 := Aside0.mk hX5
    have HD5 := Aside0.mk (And.intro h5 (And.intro hn5 (And.intro hCo5 hB5)))
    have HS5 := Aside0.mk hs5
    clear hC5 hX5 h5 hn5 hCo5 hB5 hs5
    go_cut [11, 12, 13] (fun v11 v12 v13 wx => ∃ (gk : Nat) (A' : Option Addr) (n' c' : Nat), v11 = .int .i64 dk ∧ v12 = .pointer (some ⟨gk, 0, none⟩) ∧ v13 = .slice A' n' c' ∧ Aside0 (wx.cell? ⟨gk, 0, none⟩ = some (.int .u32 ds) ∧ wx.cell? ⟨gk, 1, none⟩ = some (.int .u32 dg) ∧ gk < wx.heap.size ∧ n' ≤ c' ∧ (Kd.int .i64).C wx A' n' dout ∧ Below W5.heap.size W5 wx))
    case first =>
      go_region_held3 (fun w' => w'.cell? ⟨b, 0, none⟩ = some (.int .u32 s) ∧ w'.cell? ⟨b, 1, none⟩ = some (.int .u32 g) ∧ w'.cell? ⟨b, 2, none⟩ = some (.int .i64 port) ∧ Below W5.heap.size W5 w') ((refine (fun hK : Below W5.heap.size W5 _ => And.intro (pw_cell_below hK P0) (And.intro (pw_cell_below hK P1) (And.intro (pw_cell_below hK P2) hK))) ?_; first | assumption | exact Below.refl _ _ | (refine below_drew ?_; first | assumption | exact Below.refl _ _ | (refine below_drew ?_; first | assumption | exact Below.refl _ _) | (refine reach_alloc ?_ _; first | assumption | exact Below.refl _ _)) | (refine reach_alloc ?_ _; first | assumption | exact Below.refl _ _ | (refine below_drew ?_; first | assumption | exact Below.refl _ _) | (refine reach_alloc ?_ _; first | assumption | exact Below.refl _ _)) | (refine Below.setCell (Below.setCell (by first | assumption | exact Below.refl _ _ | (refine below_drew ?_; first | assumption | exact Below.refl _ _ | (refine below_drew ?_; first | assumption | exact Below.refl _ _) | (refine reach_alloc ?_ _; first | assumption | exact Below.refl _ _)) | (refine reach_alloc ?_ _; first | assumption | exact Below.refl _ _ | (refine below_drew ?_; first | assumption | exact Below.refl _ _) | (refine reach_alloc ?_ _; first | assumption | exact Below.refl _ _))) (by first | exact Nat.le_refl _ | exact Below.size (by assumption)) _) (by first | exact Nat.le_refl _ | exact Below.size (by assumption)) _)))
        (first | (go_at_call 43; refine (other_any A n c l _ (Kd.C_below HC5.out (by first | assumption | exact Below.refl _ _ | (refine below_drew ?_; first | assumption | exact Below.refl _ _ | (refine below_drew ?_; first | assumption | exact Below.refl _ _) | (refine reach_alloc ?_ _; first | assumption | exact Below.refl _ _)) | (refine reach_alloc ?_ _; first | assumption | exact Below.refl _ _ | (refine below_drew ?_; first | assumption | exact Below.refl _ _) | (refine reach_alloc ?_ _; first | assumption | exact Below.refl _ _)))) hle hlm5).mono ?_; rintro e wN ⟨A43, n43, c43, rfl, hle43, hC43, hbN⟩; have hb3 : Below W5.heap.size W5 wN := reach_then (by first | assumption | exact Below.refl _ _ | (refine below_drew ?_; first | assumption | exact Below.refl _ _ | (refine below_drew ?_; first | assumption | exact Below.refl _ _) | (refine reach_alloc ?_ _; first | assumption | exact Below.refl _ _)) | (refine reach_alloc ?_ _; first | assumption | exact Below.refl _ _ | (refine below_drew ?_; first | assumption | exact Below.refl _ _) | (refine reach_alloc ?_ _; first | assumption | exact Below.refl _ _))) hbN; (first | have hz := blk_below hz (reach_then (by first | assumption | exact Below.refl _ _ | (refine below_drew ?_; first | assumption | exact Below.refl _ _ | (refine below_drew ?_; first | assumption | exact Below.refl _ _) | (refine reach_alloc ?_ _; first | assumption | exact Below.refl _ _)) | (refine reach_alloc ?_ _; first | assumption | exact Below.refl _ _ | (refine below_drew ?_; first | assumption | exact Below.refl _ _) | (refine reach_alloc ?_ _; first | assumption | exact Below.refl _ _))) hbN) | have hz := blk_below (heap_alloc_new _ _) hbN | have hz := blk_below (blk_drew (heap_alloc_new _ _)) hbN | skip); have s0 := pw_cell_below hb3 P0; have s1 := pw_cell_below hb3 P1; have s2 := pw_cell_below hb3 P2) | (go_at_call 44; refine (lost19_any Ax nx cx x _ (Kd.C_below HX5.out (by first | assumption | exact Below.refl _ _ | (refine below_drew ?_; first | assumption | exact Below.refl _ _ | (refine below_drew ?_; first | assumption | exact Below.refl _ _) | (refine reach_alloc ?_ _; first | assumption | exact Below.refl _ _)) | (refine reach_alloc ?_ _; first | assumption | exact Below.refl _ _ | (refine below_drew ?_; first | assumption | exact Below.refl _ _) | (refine reach_alloc ?_ _; first | assumption | exact Below.refl _ _)))) hlx hxm5).mono ?_; rintro e wN ⟨A44, n44, c44, rfl, hle44, hC44, hbN⟩; have hb3 : Below W5.heap.size W5 wN := reach_then (by first | assumption | exact Below.refl _ _ | (refine below_drew ?_; first | assumption | exact Below.refl _ _ | (refine below_drew ?_; first | assumption | exact Below.refl _ _) | (refine reach_alloc ?_ _; first | assumption | exact Below.refl _ _)) | (refine reach_alloc ?_ _; first | assumption | exact Below.refl _ _ | (refine below_drew ?_; first | assumption | exact Below.refl _ _) | (refine reach_alloc ?_ _; first | assumption | exact Below.refl _ _))) hbN; have hC43b := Kd.C_below hC43 (reach_then (by first | assumption | exact Below.refl _ _ | (refine below_drew ?_; first | assumption | exact Below.refl _ _ | (refine below_drew ?_; first | assumption | exact Below.refl _ _) | (refine reach_alloc ?_ _; first | assumption | exact Below.refl _ _)) | (refine reach_alloc ?_ _; first | assumption | exact Below.refl _ _ | (refine below_drew ?_; first | assumption | exact Below.refl _ _) | (refine reach_alloc ?_ _; first | assumption | exact Below.refl _ _))) hbN); (first | have hz := blk_below hz (reach_then (by first | assumption | exact Below.refl _ _ | (refine below_drew ?_; first | assumption | exact Below.refl _ _ | (refine below_drew ?_; first | assumption | exact Below.refl _ _) | (refine reach_alloc ?_ _; first | assumption | exact Below.refl _ _)) | (refine reach_alloc ?_ _; first | assumption | exact Below.refl _ _ | (refine below_drew ?_; first | assumption | exact Below.refl _ _) | (refine reach_alloc ?_ _; first | assumption | exact Below.refl _ _))) hbN) | have hz := blk_below (heap_alloc_new _ _) hbN | have hz := blk_below (blk_drew (heap_alloc_new _ _)) hbN | skip); have s0 := pw_cell_below hb3 P0; have s1 := pw_cell_below hb3 P1; have s2 := pw_cell_below hb3 P2) | (go_at_call 42; refine (refDo_at A43 A44 n43 c43 n44 c44 l x router s g port dk ds dg dout HD.out _ (Kd.C_below hC43b (by first | assumption | exact Below.refl _ _ | (refine below_drew ?_; first | assumption | exact Below.refl _ _ | (refine below_drew ?_; first | assumption | exact Below.refl _ _) | (refine reach_alloc ?_ _; first | assumption | exact Below.refl _ _)) | (refine reach_alloc ?_ _; first | assumption | exact Below.refl _ _ | (refine below_drew ?_; first | assumption | exact Below.refl _ _) | (refine reach_alloc ?_ _; first | assumption | exact Below.refl _ _)))) hle43 (Kd.C_below hC44 (by first | assumption | exact Below.refl _ _ | (refine below_drew ?_; first | assumption | exact Below.refl _ _ | (refine below_drew ?_; first | assumption | exact Below.refl _ _) | (refine reach_alloc ?_ _; first | assumption | exact Below.refl _ _)) | (refine reach_alloc ?_ _; first | assumption | exact Below.refl _ _ | (refine below_drew ?_; first | assumption | exact Below.refl _ _) | (refine reach_alloc ?_ _; first | assumption | exact Below.refl _ _)))) hle44 hlm5 hxm5 HL.out.2).mono ?_; rintro e wN ⟨A42, n42, c42, rfl, hR42, hbN⟩; have hb3 : Below W5.heap.size W5 wN := reach_then (by first | assumption | exact Below.refl _ _ | (refine below_drew ?_; first | assumption | exact Below.refl _ _ | (refine below_drew ?_; first | assumption | exact Below.refl _ _) | (refine reach_alloc ?_ _; first | assumption | exact Below.refl _ _)) | (refine reach_alloc ?_ _; first | assumption | exact Below.refl _ _ | (refine below_drew ?_; first | assumption | exact Below.refl _ _) | (refine reach_alloc ?_ _; first | assumption | exact Below.refl _ _))) hbN; (first | have hz := blk_below hz (reach_then (by first | assumption | exact Below.refl _ _ | (refine below_drew ?_; first | assumption | exact Below.refl _ _ | (refine below_drew ?_; first | assumption | exact Below.refl _ _) | (refine reach_alloc ?_ _; first | assumption | exact Below.refl _ _)) | (refine reach_alloc ?_ _; first | assumption | exact Below.refl _ _ | (refine below_drew ?_; first | assumption | exact Below.refl _ _) | (refine reach_alloc ?_ _; first | assumption | exact Below.refl _ _))) hbN) | have hz := blk_below (heap_alloc_new _ _) hbN | have hz := blk_below (blk_drew (heap_alloc_new _ _)) hbN | skip); (first | (have z0 := (blk_cell hz 0).trans rfl; have z1 := (blk_cell hz 1).trans rfl; have zf := blk_frozen hz; (first | (have hz' := hz; simp only [drew_sz] at hz'; have z0' := (blk_cell hz' 0).trans rfl; have z1' := (blk_cell hz' 1).trans rfl; have zf' := blk_frozen hz') | skip)) | skip); have s0 := pw_cell_below hb3 P0; have s1 := pw_cell_below hb3 P1; have s2 := pw_cell_below hb3 P2))
      all_goals
        go_wp2_with fail
        go_meet
        first
          | exact ⟨wN.heap.size, A42, n42, c42, rfl, rfl, rfl, ⟨by simp, by simp, by simp, (R_C hR42).1, Kd.C_below (R_C hR42).2 ((Below.refl _ _).alloc (Nat.le_refl _) _), reach_alloc hb3 _⟩⟩
          | (have b1 := blk_put hz 0 (.int .u32 ds) rfl
             have b2 := blk_put b1 1 (.int .u32 dg) rfl
             have R2 := Kd.R_set (Kd.R_set hR42 hz ne69 0 (.int .u32 ds)) b1 ne69 1 (.int .u32 dg)
             refine ⟨_, A42, n42, c42, rfl, rfl, rfl, ⟨(blk_cell b2 0).trans rfl, (blk_cell b2 1).trans rfl, blk_lt b2, (R_C R2).1, (R_C R2).2, ?_⟩⟩
             exact Below.setCell (Below.setCell hb3 (by first | exact Nat.le_refl _ | exact Below.size (by assumption)) _) (by first | exact Nat.le_refl _ | exact Below.size (by assumption)) _)
    case rest =>
      obtain ⟨gk, A7, n7, c7, rfl, rfl, rfl, H7⟩ := hcut
      obtain ⟨h5, hn5, hCo5, hB5⟩ := HD5.out
      obtain ⟨t0, t1, tl, hl7, hC7, hb7⟩ := H7.out
      have h7 := blk_below h5 hb7
      have p0 := (blk_cell h7 0).trans rfl
      have p1 := (blk_cell h7 1).trans rfl
      have hC7r := Kd.C_below HC5.out hb7
      clear P0 P1 P2 t0 t1 tl hl7 hC7 h5 hn5 hCo5 hB5 hb7
      have H7' := Aside0.mk (And.intro h7 hC7r)
      clear h7 hC7r
      go_wp2_with fail
      obtain ⟨h7, hC7r⟩ := H7'.out
      clear p0 p1
      refine (row_any A n c l router s g wc hC7r HL.out.2).mono ?_
      rintro e w8 ⟨v, rfl, hown, hb8⟩
      obtain ⟨A8, c8, rfl⟩ := Kd.R_slice hown
      obtain ⟨O9, hO9⟩ : ∃ O, O = Obj.cells (cells78 (rowAt l (usedOf l router s g)) (.slice A8 (rowAt l (usedOf l router s g)).f4.length c8)) 78 (0, 0) := ⟨_, rfl⟩
      have HO9 := Aside0.mk hO9
      have hb9 := reach_alloc (Below.refl w8.heap.size w8) O9
      have hr9 := (heap_alloc_new w8 O9).trans (congrArg some hO9)
      have hC8 := Kd.C_below hC7r hb8
      have h8 := blk_below h7 hb8
      have HF9 := Aside0.mk (And.intro hr9 (And.intro (Kd.C_below hC8 hb9) (And.intro (blk_below h8 hb9) (And.intro (reach_then hb8 hb9) (And.intro (R_C hown).1 (Kd.C_below (R_C hown).2 hb9))))))
      clear hO9 hb9 hr9 hC8 h8 hown hb8 h7 hC7r
      simp only [cells78] at HO9 ⊢
      go_upto_region 9 with fail
      rw [← HO9.out]
      obtain ⟨hr9, hC9, h9, hb9, hl8, hC8⟩ := HF9.out
      obtain ⟨gr, hgr⟩ : ∃ gr, gr = w8.heap.size := ⟨_, rfl⟩
      rw [← hgr] at hr9 ⊢
      clear HF9 HO9 hgr
      generalize w8.alloc O9 = W9 at *
      have P0 := (blk_cell h9 0).trans rfl
      have P1 := (blk_cell h9 1).trans rfl
      have HC9 := Aside0.mk hC9
      have HR9 := Aside0.mk (And.intro hr9 (And.intro h9 (And.intro hb9 (And.intro hl8 hC8))))
      clear hr9 hC9 h9 hb9 hl8 hC8
      go_cut [16] (fun v16 wx => v16 = .int .i64 (idxAt 0 (usedOf l router s g)) ∧ Aside0 (Below W9.heap.size W9 wx))
      case first =>
        go_region_held3 (fun w' => w'.cell? ⟨b, 0, none⟩ = some (.int .u32 s) ∧ w'.cell? ⟨b, 1, none⟩ = some (.int .u32 g) ∧ Below W9.heap.size W9 w') ((refine (fun hK : Below W9.heap.size W9 _ => And.intro (pw_cell_below hK P0) (And.intro (pw_cell_below hK P1) hK)) ?_; first | assumption | exact Below.refl _ _ | (refine below_drew ?_; first | assumption | exact Below.refl _ _ | (refine below_drew ?_; first | assumption | exact Below.refl _ _) | (refine reach_alloc ?_ _; first | assumption | exact Below.refl _ _)) | (refine reach_alloc ?_ _; first | assumption | exact Below.refl _ _ | (refine below_drew ?_; first | assumption | exact Below.refl _ _) | (refine reach_alloc ?_ _; first | assumption | exact Below.refl _ _))))
          (first | (go_at_call 43; refine (other_any A n c l _ (Kd.C_below HC9.out (by first | assumption | exact Below.refl _ _ | (refine below_drew ?_; first | assumption | exact Below.refl _ _ | (refine below_drew ?_; first | assumption | exact Below.refl _ _) | (refine reach_alloc ?_ _; first | assumption | exact Below.refl _ _)) | (refine reach_alloc ?_ _; first | assumption | exact Below.refl _ _ | (refine below_drew ?_; first | assumption | exact Below.refl _ _) | (refine reach_alloc ?_ _; first | assumption | exact Below.refl _ _)))) hle hlm5).mono ?_; rintro e wN ⟨A43, n43, c43, rfl, hle43, hC43, hbN⟩; have hb3 : Below W9.heap.size W9 wN := reach_then (by first | assumption | exact Below.refl _ _ | (refine below_drew ?_; first | assumption | exact Below.refl _ _ | (refine below_drew ?_; first | assumption | exact Below.refl _ _) | (refine reach_alloc ?_ _; first | assumption | exact Below.refl _ _)) | (refine reach_alloc ?_ _; first | assumption | exact Below.refl _ _ | (refine below_drew ?_; first | assumption | exact Below.refl _ _) | (refine reach_alloc ?_ _; first | assumption | exact Below.refl _ _))) hbN; have s0 := pw_cell_below hb3 P0; have s1 := pw_cell_below hb3 P1) | (go_at_call 45; refine (refUsed_any A43 n43 c43 l router s g _ (Kd.C_below hC43 (by first | assumption | exact Below.refl _ _ | (refine below_drew ?_; first | assumption | exact Below.refl _ _ | (refine below_drew ?_; first | assumption | exact Below.refl _ _) | (refine reach_alloc ?_ _; first | assumption | exact Below.refl _ _)) | (refine reach_alloc ?_ _; first | assumption | exact Below.refl _ _ | (refine below_drew ?_; first | assumption | exact Below.refl _ _) | (refine reach_alloc ?_ _; first | assumption | exact Below.refl _ _)))) hle43 hlm5).mono ?_; rintro e wN ⟨rfl, hbN⟩; have hb3 : Below W9.heap.size W9 wN := reach_then (by first | assumption | exact Below.refl _ _ | (refine below_drew ?_; first | assumption | exact Below.refl _ _ | (refine below_drew ?_; first | assumption | exact Below.refl _ _) | (refine reach_alloc ?_ _; first | assumption | exact Below.refl _ _)) | (refine reach_alloc ?_ _; first | assumption | exact Below.refl _ _ | (refine below_drew ?_; first | assumption | exact Below.refl _ _) | (refine reach_alloc ?_ _; first | assumption | exact Below.refl _ _))) hbN; have s0 := pw_cell_below hb3 P0; have s1 := pw_cell_below hb3 P1))
        all_goals
          go_wp2_with fail
          go_meet
          exact ⟨rfl, ⟨hb3⟩⟩
      case rest =>
        obtain ⟨rfl, HB⟩ := hcut
        obtain ⟨hr9, h9, hb9, hl8, hC8⟩ := HR9.out
        obtain ⟨h5, hn5, hCo5, hB5⟩ := HD5.out
        obtain ⟨t0', t1', tl, hl7, hC7, hb7⟩ := H7.out
        have hbC := reach_then hb9 HB.out
        have hbA := reach_then hb7 hbC
        have hBW := Aside0.mk (reach_then (below_then hB5 hB5.size hbA) (Below.refl _ _))
        have hd := blk_below hn5 hbA
        have d0 := (blk_cell hd 0).trans rfl
        have d1 := (blk_cell hd 1).trans rfl
        have d2 := (blk_cell hd 2).trans rfl
        have d3 := (blk_cell hd 3).trans rfl
        have t0 := pw_cell_below hbC t0'
        have t1 := pw_cell_below hbC t1'
        have HCo := Aside0.mk (Kd.C_below hCo5 hbA)
        have HC7 := Aside0.mk (Kd.C_below hC7 hbC)
        have HC8 := Aside0.mk (Kd.C_below hC8 HB.out)
        have hgr := blk_below hr9 HB.out
        have hC9 := Kd.C_below HC9.out HB.out
        have hdl : dout.length ≤ 12 := by
          have hD := HD.out
          unfold deed at hD
          cases hu : usedOf l router s g with
          | none => rw [hu] at hD; injection hD with _ _ _ h; rw [← h]; simp
          | some k =>
            rw [hu] at hD
            simp only at hD
            have hk := used_lt hu
            have h12 : (l.getD k z78).f4.length ≤ 12 := HL.out.1 _ (by rw [List.getD_eq_getElem?_getD, List.getElem?_eq_getElem hk]; exact List.getElem_mem _)
            split at hD
            · injection hD with _ _ _ h; rw [← h]; exact Nat.le_trans (List.length_filter_le _ _) h12
            · injection hD with _ _ _ h; rw [← h]; simp
        clear hr9 h9 hb9 hC8 h5 hn5 hCo5 hB5 t0' t1' tl hC7 hb7 hbC hbA hd P0 P1
        cases hu : usedOf l router s g with
        | none =>
          simp only [Option.isSome_none, idxAt]
          clear hgr hC9 hl8 HC8 HR9
          have e0 : decide ((-1 : Int) ≥ 0) = false := by decide
          have e1 : decide ((0 : Int) ≤ -1) = false := by decide
          go_upto_region 10 with fail
          refine wp_region_held_drew (S := (fun w' => w'.cell? ⟨gd, 0, none⟩ = some (.int .i64 dk) ∧ w'.cell? ⟨gd, 1, none⟩ = some (.int .u32 ds) ∧ w'.cell? ⟨gd, 2, none⟩ = some (.int .u32 dg) ∧ w'.cell? ⟨gd, 3, none⟩ = some (.slice Ao no co) ∧ w'.cell? ⟨gk, 0, none⟩ = some (.int .u32 ds) ∧ w'.cell? ⟨gk, 1, none⟩ = some (.int .u32 dg) ∧ Below wc.heap.size wc w')) (by kernel_rfl) ?_ (fun hHeld => ?_)
          · (refine (fun hK : Below wc.heap.size wc _ => And.intro (pw_cell_below hK d0) (And.intro (pw_cell_below hK d1) (And.intro (pw_cell_below hK d2) (And.intro (pw_cell_below hK d3) (And.intro (pw_cell_below hK t0) (And.intro (pw_cell_below hK t1) hK)))))) ?_; (first | assumption | exact Below.refl _ _ | (refine below_drew ?_; first | assumption | exact Below.refl _ _)))
          refine wpAnyH_take (i := 0) (v := ?_) rfl (by kernel_rfl) (by kernel_rfl) (by kernel_rfl) (fun _ _ _ h => h) (Or.inl ⟨by rfl, ?_⟩) (by assumption) ?_
          rotate_left 1
          · intro w hSw; (try dsimp only at hSw); go_simp; try with_reducible rfl
          try simp only [Act.put, List.getElem_toArray, List.getElem_cons_zero, List.getElem_cons_succ, List.setIfInBounds_toArray, List.set_cons_zero, List.set_cons_succ]
          refine wpAnyH_take (i := 1) (v := ?_) rfl (by kernel_rfl) (by kernel_rfl) (by kernel_rfl) (fun _ _ _ h => h) (Or.inl ⟨by rfl, ?_⟩) (by assumption) ?_
          rotate_left 1
          · intro w hSw; (try dsimp only at hSw); go_simp; try with_reducible rfl
          try simp only [Act.put, List.getElem_toArray, List.getElem_cons_zero, List.getElem_cons_succ, List.setIfInBounds_toArray, List.set_cons_zero, List.set_cons_succ]
          refine wpAnyH_take (i := 2) (v := ?_) rfl (by kernel_rfl) (by kernel_rfl) (by kernel_rfl) (fun _ _ _ h => h) (Or.inl ⟨by rfl, ?_⟩) (by assumption) ?_
          rotate_left 1
          · intro w hSw; (try dsimp only at hSw); go_simp; try with_reducible rfl
          try simp only [Act.put, List.getElem_toArray, List.getElem_cons_zero, List.getElem_cons_succ, List.setIfInBounds_toArray, List.set_cons_zero, List.set_cons_succ]
          refine wpAnyH_take (i := 3) (v := ?_) rfl (by kernel_rfl) (by kernel_rfl) (by kernel_rfl) (fun _ _ _ h => h) (Or.inl ⟨by rfl, ?_⟩) (by assumption) ?_
          rotate_left 1
          · intro w hSw; (try dsimp only at hSw); go_simp; try with_reducible rfl
          try simp only [Act.put, List.getElem_toArray, List.getElem_cons_zero, List.getElem_cons_succ, List.setIfInBounds_toArray, List.set_cons_zero, List.set_cons_succ]
          refine wpAnyH_take (i := 4) (v := ?_) rfl (by kernel_rfl) (by kernel_rfl) (by kernel_rfl) (fun _ _ _ h => h) (Or.inl ⟨by rfl, ?_⟩) (by assumption) ?_
          rotate_left 1
          · intro w hSw; (try dsimp only at hSw); go_simp; try with_reducible rfl
          try simp only [Act.put, List.getElem_toArray, List.getElem_cons_zero, List.getElem_cons_succ, List.setIfInBounds_toArray, List.set_cons_zero, List.set_cons_succ]
          refine wpAnyH_take (i := 5) (v := ?_) rfl (by kernel_rfl) (by kernel_rfl) (by kernel_rfl) (fun _ _ _ h => h) (Or.inl ⟨by rfl, ?_⟩) (by assumption) ?_
          rotate_left 1
          · intro w hSw; (try dsimp only at hSw); go_simp; try with_reducible rfl
          try simp only [Act.put, List.getElem_toArray, List.getElem_cons_zero, List.getElem_cons_succ, List.setIfInBounds_toArray, List.set_cons_zero, List.set_cons_succ]
          refine wpAnyH_take (i := 6) (v := ?_) rfl (by kernel_rfl) (by kernel_rfl) (by kernel_rfl) (fun _ _ _ h => h) (Or.inl ⟨by rfl, ?_⟩) (by assumption) ?_
          rotate_left 1
          · intro w hSw; (try dsimp only at hSw); go_simp; try with_reducible rfl
          try simp only [Act.put, List.getElem_toArray, List.getElem_cons_zero, List.getElem_cons_succ, List.setIfInBounds_toArray, List.set_cons_zero, List.set_cons_succ]
          refine wpAnyH_take (i := 7) (v := ?_) rfl (by kernel_rfl) (by kernel_rfl) (by kernel_rfl) (fun _ _ _ h => h) (Or.inl ⟨by rfl, ?_⟩) (by assumption) ?_
          rotate_left 1
          · intro w hSw; (try dsimp only at hSw); go_simp; try with_reducible rfl
          try simp only [Act.put, List.getElem_toArray, List.getElem_cons_zero, List.getElem_cons_succ, List.setIfInBounds_toArray, List.set_cons_zero, List.set_cons_succ]
          refine wpAnyH_ready (rs := [8]) (by kernel_rfl) (by simp) ?_
          refine AllReadyH.cons rfl (fun K hK => ?_) ?_
          · go_simp
            refine (sameKey_self ds dg _).mono ?_
            rintro e wN ⟨rfl, hbN⟩
            have hb3 : Below wc.heap.size wc wN := reach_then (by first | assumption | exact Below.refl _ _ | (refine below_drew ?_; first | assumption | exact Below.refl _ _)) hbN
            go_wp2_with fail
            refine hK.out _ _ ?_ (fun hHeld => ?_)
            · (refine (fun hK : Below wc.heap.size wc _ => And.intro (pw_cell_below hK d0) (And.intro (pw_cell_below hK d1) (And.intro (pw_cell_below hK d2) (And.intro (pw_cell_below hK d3) (And.intro (pw_cell_below hK t0) (And.intro (pw_cell_below hK t1) hK)))))) ?_; (first | assumption | exact Below.refl _ _ | (refine below_drew ?_; first | assumption | exact Below.refl _ _)))
            clear hK K
            try simp only [Act.put, List.getElem_toArray, List.getElem_cons_zero, List.getElem_cons_succ, List.setIfInBounds_toArray, List.set_cons_zero, List.set_cons_succ]
            refine wpAnyH_take (i := 9) (v := ?_) rfl (by kernel_rfl) (by kernel_rfl) (by kernel_rfl) (fun _ _ _ h => h) (Or.inl ⟨by rfl, ?_⟩) (by assumption) ?_
            rotate_left 1
            · intro w hSw; (try dsimp only at hSw); go_simp; try with_reducible rfl
            try simp only [Act.put, List.getElem_toArray, List.getElem_cons_zero, List.getElem_cons_succ, List.setIfInBounds_toArray, List.set_cons_zero, List.set_cons_succ]
            refine wpAnyH_take (i := 10) (v := ?_) rfl (by kernel_rfl) (by kernel_rfl) (by kernel_rfl) (fun _ _ _ h => h) (Or.inl ⟨by rfl, ?_⟩) (by assumption) ?_
            rotate_left 1
            · intro w hSw; (try dsimp only at hSw); go_simp; try with_reducible rfl
            try simp only [Act.put, List.getElem_toArray, List.getElem_cons_zero, List.getElem_cons_succ, List.setIfInBounds_toArray, List.set_cons_zero, List.set_cons_succ]
            refine wpAnyH_take (i := 11) (v := ?_) rfl (by kernel_rfl) (by kernel_rfl) (by kernel_rfl) (fun _ _ _ h => h) (Or.inl ⟨by rfl, ?_⟩) (by assumption) ?_
            rotate_left 1
            · intro w hSw; (try dsimp only at hSw); go_simp; try with_reducible rfl
            try simp only [Act.put, List.getElem_toArray, List.getElem_cons_zero, List.getElem_cons_succ, List.setIfInBounds_toArray, List.set_cons_zero, List.set_cons_succ]
            refine wpAnyH_take (i := 12) (v := ?_) rfl (by kernel_rfl) (by kernel_rfl) (by kernel_rfl) (fun _ _ _ h => h) (Or.inl ⟨by rfl, ?_⟩) (by assumption) ?_
            rotate_left 1
            · intro w hSw; (try dsimp only at hSw); go_simp; try with_reducible rfl
            try simp only [Act.put, List.getElem_toArray, List.getElem_cons_zero, List.getElem_cons_succ, List.setIfInBounds_toArray, List.set_cons_zero, List.set_cons_succ]
            refine wpAnyH_take (i := 13) (v := ?_) rfl (by kernel_rfl) (by kernel_rfl) (by kernel_rfl) (fun _ _ _ h => h) (Or.inl ⟨by rfl, ?_⟩) (by assumption) ?_
            rotate_left 1
            · intro w hSw; (try dsimp only at hSw); go_simp; try with_reducible rfl
            try simp only [Act.put, List.getElem_toArray, List.getElem_cons_zero, List.getElem_cons_succ, List.setIfInBounds_toArray, List.set_cons_zero, List.set_cons_succ]
            refine wpAnyH_ready (rs := [14]) (by kernel_rfl) (by simp) ?_
            refine AllReadyH.cons rfl (fun K hK => ?_) ?_
            · go_simp
              refine (sameInts_self Ao A7 no n7 co c7 dout _ (Kd.C_below HCo.out hb3) (Kd.C_below HC7.out hb3) hleo hl7 (by omega)).mono ?_
              rintro e wM ⟨rfl, hbM⟩
              have hb4 : Below wc.heap.size wc wM := reach_then hb3 hbM
              go_wp2_with fail
              refine hK.out _ _ ?_ (fun hHeld => ?_)
              · (refine (fun hK : Below wc.heap.size wc _ => And.intro (pw_cell_below hK d0) (And.intro (pw_cell_below hK d1) (And.intro (pw_cell_below hK d2) (And.intro (pw_cell_below hK d3) (And.intro (pw_cell_below hK t0) (And.intro (pw_cell_below hK t1) hK)))))) ?_; (first | assumption | exact Below.refl _ _ | (refine below_drew ?_; first | assumption | exact Below.refl _ _)))
              clear hK K
              try simp only [Act.put, List.getElem_toArray, List.getElem_cons_zero, List.getElem_cons_succ, List.setIfInBounds_toArray, List.set_cons_zero, List.set_cons_succ]
              refine wpAnyH_take (i := 15) (v := ?_) rfl (by kernel_rfl) (by kernel_rfl) (by kernel_rfl) (fun _ _ _ h => h) (Or.inl ⟨by rfl, ?_⟩) (by assumption) ?_
              rotate_left 1
              · intro w hSw; (try dsimp only at hSw); go_simp; try with_reducible rfl
              try simp only [Act.put, List.getElem_toArray, List.getElem_cons_zero, List.getElem_cons_succ, List.setIfInBounds_toArray, List.set_cons_zero, List.set_cons_succ]
              refine wpAnyH_take (i := 16) (v := ?_) rfl (by kernel_rfl) (by kernel_rfl) (by kernel_rfl) (fun _ _ _ h => h) (Or.inl ⟨by rfl, ?_⟩) (by assumption) ?_
              rotate_left 1
              · intro w hSw; (try dsimp only at hSw); go_simp; try with_reducible rfl
              try simp only [Act.put, List.getElem_toArray, List.getElem_cons_zero, List.getElem_cons_succ, List.setIfInBounds_toArray, List.set_cons_zero, List.set_cons_succ]
              refine wpAnyH_take (i := 17) (v := ?_) rfl (by kernel_rfl) (by kernel_rfl) (by kernel_rfl) (fun _ _ _ h => h) (Or.inl ⟨by rfl, ?_⟩) (by assumption) ?_
              rotate_left 1
              · intro w hSw; (try dsimp only at hSw); go_simp; try with_reducible rfl
              try simp only [Act.put, List.getElem_toArray, List.getElem_cons_zero, List.getElem_cons_succ, List.setIfInBounds_toArray, List.set_cons_zero, List.set_cons_succ]
              refine wpAnyH_take (i := 18) (v := ?_) rfl (by kernel_rfl) (by kernel_rfl) (by kernel_rfl) (fun _ _ _ h => h) (Or.inl ⟨by rfl, ?_⟩) (by assumption) ?_
              rotate_left 1
              · intro w hSw; (try dsimp only at hSw); go_simp; try with_reducible rfl
              try simp only [Act.put, List.getElem_toArray, List.getElem_cons_zero, List.getElem_cons_succ, List.setIfInBounds_toArray, List.set_cons_zero, List.set_cons_succ]
              refine wpAnyH_take (i := 19) (v := ?_) rfl (by kernel_rfl) (by kernel_rfl) (by kernel_rfl) (fun _ _ _ h => h) (Or.inl ⟨by rfl, ?_⟩) (by assumption) ?_
              rotate_left 1
              · intro w hSw; (try dsimp only at hSw); go_simp; try with_reducible rfl
              try simp only [Act.put, List.getElem_toArray, List.getElem_cons_zero, List.getElem_cons_succ, List.setIfInBounds_toArray, List.set_cons_zero, List.set_cons_succ]
              refine wpAnyH_take (i := 20) (v := ?_) rfl (by kernel_rfl) (by kernel_rfl) (by kernel_rfl) (fun _ _ _ h => h) (Or.inl ⟨by rfl, ?_⟩) (by assumption) ?_
              rotate_left 1
              · intro w hSw; (try dsimp only at hSw); go_simp; try with_reducible rfl
              try simp only [Act.put, List.getElem_toArray, List.getElem_cons_zero, List.getElem_cons_succ, List.setIfInBounds_toArray, List.set_cons_zero, List.set_cons_succ]
              refine wpAnyH_take (i := 21) (v := ?_) rfl (by kernel_rfl) (by kernel_rfl) (by kernel_rfl) (fun _ _ _ h => h) (Or.inl ⟨by rfl, ?_⟩) (by assumption) ?_
              rotate_left 1
              · intro w hSw; (try dsimp only at hSw); go_simp; try with_reducible rfl
              try simp only [Act.put, List.getElem_toArray, List.getElem_cons_zero, List.getElem_cons_succ, List.setIfInBounds_toArray, List.set_cons_zero, List.set_cons_succ]
              refine wpAnyH_take (i := 22) (v := ?_) rfl (by kernel_rfl) (by kernel_rfl) (by kernel_rfl) (fun _ _ _ h => h) (Or.inl ⟨by rfl, ?_⟩) (by assumption) ?_
              rotate_left 1
              · intro w hSw; (try dsimp only at hSw); go_simp; try with_reducible rfl
              try simp only [Act.put, List.getElem_toArray, List.getElem_cons_zero, List.getElem_cons_succ, List.setIfInBounds_toArray, List.set_cons_zero, List.set_cons_succ]
              refine wpAnyH_take (i := 23) (v := ?_) rfl (by kernel_rfl) (by kernel_rfl) (by kernel_rfl) (fun _ _ _ h => h) (Or.inl ⟨by rfl, ?_⟩) (by assumption) ?_
              rotate_left 1
              · intro w hSw; (try dsimp only at hSw); go_simp; try with_reducible rfl
              try simp only [Act.put, List.getElem_toArray, List.getElem_cons_zero, List.getElem_cons_succ, List.setIfInBounds_toArray, List.set_cons_zero, List.set_cons_succ]
              refine wpAnyH_take (i := 24) (v := ?_) rfl (by kernel_rfl) (by kernel_rfl) (by kernel_rfl) (fun _ _ _ h => h) (Or.inl ⟨by rfl, ?_⟩) (by assumption) ?_
              rotate_left 1
              · intro w hSw; (try dsimp only at hSw); go_simp; try with_reducible rfl
              try simp only [Act.put, List.getElem_toArray, List.getElem_cons_zero, List.getElem_cons_succ, List.setIfInBounds_toArray, List.set_cons_zero, List.set_cons_succ]
              refine wpAnyH_take (i := 25) (v := ?_) rfl (by kernel_rfl) (by kernel_rfl) (by kernel_rfl) (fun _ _ _ h => h) (Or.inl ⟨by rfl, ?_⟩) (by assumption) ?_
              rotate_left 1
              · intro w hSw; (try dsimp only at hSw); go_simp; try with_reducible rfl
              try simp only [Act.put, List.getElem_toArray, List.getElem_cons_zero, List.getElem_cons_succ, List.setIfInBounds_toArray, List.set_cons_zero, List.set_cons_succ]
              refine wpAnyH_take (i := 26) (v := undef) rfl (by kernel_rfl) (by kernel_rfl) (by kernel_rfl) (fun _ _ _ h => h) (Or.inr ⟨by rfl, rfl⟩) (by assumption) ?_
              try simp only [Act.put, List.getElem_toArray, List.getElem_cons_zero, List.getElem_cons_succ, List.setIfInBounds_toArray, List.set_cons_zero, List.set_cons_succ]
              refine wpAnyH_take (i := 27) (v := undef) rfl (by kernel_rfl) (by kernel_rfl) (by kernel_rfl) (fun _ _ _ h => h) (Or.inr ⟨by rfl, rfl⟩) (by assumption) ?_
              try simp only [Act.put, List.getElem_toArray, List.getElem_cons_zero, List.getElem_cons_succ, List.setIfInBounds_toArray, List.set_cons_zero, List.set_cons_succ]
              refine wpAnyH_take (i := 28) (v := undef) rfl (by kernel_rfl) (by kernel_rfl) (by kernel_rfl) (fun _ _ _ h => h) (Or.inr ⟨by rfl, rfl⟩) (by assumption) ?_
              try simp only [Act.put, List.getElem_toArray, List.getElem_cons_zero, List.getElem_cons_succ, List.setIfInBounds_toArray, List.set_cons_zero, List.set_cons_succ]
              refine wpAnyH_take (i := 29) (v := undef) rfl (by kernel_rfl) (by kernel_rfl) (by kernel_rfl) (fun _ _ _ h => h) (Or.inr ⟨by rfl, rfl⟩) (by assumption) ?_
              try simp only [Act.put, List.getElem_toArray, List.getElem_cons_zero, List.getElem_cons_succ, List.setIfInBounds_toArray, List.set_cons_zero, List.set_cons_succ]
              refine wpAnyH_take (i := 30) (v := undef) rfl (by kernel_rfl) (by kernel_rfl) (by kernel_rfl) (fun _ _ _ h => h) (Or.inr ⟨by rfl, rfl⟩) (by assumption) ?_
              try simp only [Act.put, List.getElem_toArray, List.getElem_cons_zero, List.getElem_cons_succ, List.setIfInBounds_toArray, List.set_cons_zero, List.set_cons_succ]
              refine wpAnyH_take (i := 31) (v := undef) rfl (by kernel_rfl) (by kernel_rfl) (by kernel_rfl) (fun _ _ _ h => h) (Or.inr ⟨by rfl, rfl⟩) (by assumption) ?_
              try simp only [Act.put, List.getElem_toArray, List.getElem_cons_zero, List.getElem_cons_succ, List.setIfInBounds_toArray, List.set_cons_zero, List.set_cons_succ]
              refine wpAnyH_take (i := 32) (v := ?_) rfl (by kernel_rfl) (by kernel_rfl) (by kernel_rfl) (fun _ _ _ h => h) (Or.inl ⟨by rfl, ?_⟩) (by assumption) ?_
              rotate_left 1
              · intro w hSw; (try dsimp only at hSw); go_simp; try with_reducible rfl
              try simp only [Act.put, List.getElem_toArray, List.getElem_cons_zero, List.getElem_cons_succ, List.setIfInBounds_toArray, List.set_cons_zero, List.set_cons_succ]
              refine wpAnyH_take (i := 33) (v := ?_) rfl (by kernel_rfl) (by kernel_rfl) (by kernel_rfl) (fun _ _ _ h => h) (Or.inl ⟨by rfl, ?_⟩) (by assumption) ?_
              rotate_left 1
              · intro w hSw; (try dsimp only at hSw); go_simp; try with_reducible rfl
              try simp only [Act.put, List.getElem_toArray, List.getElem_cons_zero, List.getElem_cons_succ, List.setIfInBounds_toArray, List.set_cons_zero, List.set_cons_succ]
              refine wpAnyH_take (i := 34) (v := ?_) rfl (by kernel_rfl) (by kernel_rfl) (by kernel_rfl) (fun _ _ _ h => h) (Or.inl ⟨by rfl, ?_⟩) (by assumption) ?_
              rotate_left 1
              · intro w hSw; (try dsimp only at hSw); go_simp; try with_reducible rfl
              try simp only [Act.put, List.getElem_toArray, List.getElem_cons_zero, List.getElem_cons_succ, List.setIfInBounds_toArray, List.set_cons_zero, List.set_cons_succ]
              refine wpAnyH_done (by kernel_rfl) ?_ _
              go_wp2
              go_ret
              exact ⟨rfl, below_then hBW.out hBW.out.size hb4⟩
            · exact AllReadyH.nil
          · exact AllReadyH.nil
        | some k =>
          have hk := used_lt hu
          rw [hu] at hgr HC8 hl8
          simp only [Option.isSome_some, idxAt, Nat.zero_add]
          obtain ⟨ad, A5, c5, y, rfl, q0, q1, q2, q3, q4, q5, HQ, HY⟩ := row78_at hC9 k (by rw [← hC9.1]; exact hk)
          have hyr : rowAt l (some k) = y := HY.out.symm
          rw [hyr] at hgr HC8 hl8
          have hy12 : y.f4.length ≤ 12 := HL.out.1 y (by rw [HY.out, List.getD_eq_getElem?_getD, List.getElem?_eq_getElem hk]; exact List.getElem_mem _)
          have hkn : k < n := by rw [← hC9.1]; exact hk
          have hk0 : (0 : Int) ≤ (k : Int) := by omega
          have hk1 : (k : Int) < (n : Int) := by omega
          simp only [cells78] at hgr
          have g0 := (blk_cell hgr 0).trans rfl
          have g1 := (blk_cell hgr 1).trans rfl
          have g2 := (blk_cell hgr 2).trans rfl
          have g3 := (blk_cell hgr 3).trans rfl
          have g4 := (blk_cell hgr 4).trans rfl
          have g5 := (blk_cell hgr 5).trans rfl
          clear hgr hC9 HR9
          go_upto_region 10 with fail
          go_region_held3 (fun w' => w'.cell? ⟨gd, 0, none⟩ = some (.int .i64 dk) ∧ w'.cell? ⟨gd, 1, none⟩ = some (.int .u32 ds) ∧ w'.cell? ⟨gd, 2, none⟩ = some (.int .u32 dg) ∧ w'.cell? ⟨gd, 3, none⟩ = some (.slice Ao no co) ∧ w'.cell? ⟨gk, 0, none⟩ = some (.int .u32 ds) ∧ w'.cell? ⟨gk, 1, none⟩ = some (.int .u32 dg) ∧ w'.cell? ⟨gr, 0, none⟩ = some (.int .i64 y.f0) ∧ w'.cell? ⟨gr, 1, none⟩ = some (.int .i64 y.f1) ∧ w'.cell? ⟨gr, 2, none⟩ = some (.int .i64 y.f2) ∧ w'.cell? ⟨gr, 3, none⟩ = some (.int .u32 y.f3.f0) ∧ w'.cell? ⟨gr, 4, none⟩ = some (.int .u32 y.f3.f1) ∧ w'.cell? ⟨gr, 5, none⟩ = some (.slice A8 y.f4.length c8) ∧ w'.cell? (ad.add (k * 6)) = some (.int .i64 y.f0) ∧ w'.cell? ⟨(ad.add (k * 6)).block, (ad.add (k * 6)).off + 1, none⟩ = some (.int .i64 y.f1) ∧ w'.cell? ⟨(ad.add (k * 6)).block, (ad.add (k * 6)).off + 2, none⟩ = some (.int .i64 y.f2) ∧ w'.cell? ⟨(ad.add (k * 6)).block, (ad.add (k * 6)).off + 3, none⟩ = some (.int .u32 y.f3.f0) ∧ w'.cell? ⟨(ad.add (k * 6)).block, (ad.add (k * 6)).off + 4, none⟩ = some (.int .u32 y.f3.f1) ∧ w'.cell? ⟨(ad.add (k * 6)).block, (ad.add (k * 6)).off + 5, none⟩ = some (.slice A5 y.f4.length c5) ∧ Below wc.heap.size wc w') ((refine (fun hK : Below wc.heap.size wc _ => And.intro (pw_cell_below hK d0) (And.intro (pw_cell_below hK d1) (And.intro (pw_cell_below hK d2) (And.intro (pw_cell_below hK d3) (And.intro (pw_cell_below hK t0) (And.intro (pw_cell_below hK t1) (And.intro (pw_cell_below hK g0) (And.intro (pw_cell_below hK g1) (And.intro (pw_cell_below hK g2) (And.intro (pw_cell_below hK g3) (And.intro (pw_cell_below hK g4) (And.intro (pw_cell_below hK g5) (And.intro (pw_cell_below hK q0) (And.intro (pw_cell_below hK q1) (And.intro (pw_cell_below hK q2) (And.intro (pw_cell_below hK q3) (And.intro (pw_cell_below hK q4) (And.intro (pw_cell_below hK q5) hK)))))))))))))))))) ?_; first | assumption | exact Below.refl _ _ | (refine below_drew ?_; first | assumption | exact Below.refl _ _ | (refine below_drew ?_; first | assumption | exact Below.refl _ _) | (refine reach_alloc ?_ _; first | assumption | exact Below.refl _ _)) | (refine reach_alloc ?_ _; first | assumption | exact Below.refl _ _ | (refine below_drew ?_; first | assumption | exact Below.refl _ _) | (refine reach_alloc ?_ _; first | assumption | exact Below.refl _ _))))
            (first | (go_at_call 39; refine (sameKey_self ds dg _).mono ?_; rintro e wN ⟨rfl, hbN⟩; have hb3 : Below wc.heap.size wc wN := reach_then (by first | assumption | exact Below.refl _ _ | (refine below_drew ?_; first | assumption | exact Below.refl _ _ | (refine below_drew ?_; first | assumption | exact Below.refl _ _) | (refine reach_alloc ?_ _; first | assumption | exact Below.refl _ _)) | (refine reach_alloc ?_ _; first | assumption | exact Below.refl _ _ | (refine below_drew ?_; first | assumption | exact Below.refl _ _) | (refine reach_alloc ?_ _; first | assumption | exact Below.refl _ _))) hbN; have s0 := pw_cell_below hb3 d0; have s1 := pw_cell_below hb3 d1; have s2 := pw_cell_below hb3 d2; have s3 := pw_cell_below hb3 d3; have s4 := pw_cell_below hb3 t0; have s5 := pw_cell_below hb3 t1; have s6 := pw_cell_below hb3 g0; have s7 := pw_cell_below hb3 g1; have s8 := pw_cell_below hb3 g2; have s9 := pw_cell_below hb3 g3; have s10 := pw_cell_below hb3 g4; have s11 := pw_cell_below hb3 g5; have s12 := pw_cell_below hb3 q0; have s13 := pw_cell_below hb3 q1; have s14 := pw_cell_below hb3 q2; have s15 := pw_cell_below hb3 q3; have s16 := pw_cell_below hb3 q4; have s17 := pw_cell_below hb3 q5) | (go_at_call 41; refine (sameInts_self Ao A7 no n7 co c7 dout _ (Kd.C_below HCo.out (by first | assumption | exact Below.refl _ _ | (refine below_drew ?_; first | assumption | exact Below.refl _ _ | (refine below_drew ?_; first | assumption | exact Below.refl _ _) | (refine reach_alloc ?_ _; first | assumption | exact Below.refl _ _)) | (refine reach_alloc ?_ _; first | assumption | exact Below.refl _ _ | (refine below_drew ?_; first | assumption | exact Below.refl _ _) | (refine reach_alloc ?_ _; first | assumption | exact Below.refl _ _)))) (Kd.C_below HC7.out (by first | assumption | exact Below.refl _ _ | (refine below_drew ?_; first | assumption | exact Below.refl _ _ | (refine below_drew ?_; first | assumption | exact Below.refl _ _) | (refine reach_alloc ?_ _; first | assumption | exact Below.refl _ _)) | (refine reach_alloc ?_ _; first | assumption | exact Below.refl _ _ | (refine below_drew ?_; first | assumption | exact Below.refl _ _) | (refine reach_alloc ?_ _; first | assumption | exact Below.refl _ _)))) hleo hl7 (by omega)).mono ?_; rintro e wN ⟨rfl, hbN⟩; have hb3 : Below wc.heap.size wc wN := reach_then (by first | assumption | exact Below.refl _ _ | (refine below_drew ?_; first | assumption | exact Below.refl _ _ | (refine below_drew ?_; first | assumption | exact Below.refl _ _) | (refine reach_alloc ?_ _; first | assumption | exact Below.refl _ _)) | (refine reach_alloc ?_ _; first | assumption | exact Below.refl _ _ | (refine below_drew ?_; first | assumption | exact Below.refl _ _) | (refine reach_alloc ?_ _; first | assumption | exact Below.refl _ _))) hbN; have s0 := pw_cell_below hb3 d0; have s1 := pw_cell_below hb3 d1; have s2 := pw_cell_below hb3 d2; have s3 := pw_cell_below hb3 d3; have s4 := pw_cell_below hb3 t0; have s5 := pw_cell_below hb3 t1; have s6 := pw_cell_below hb3 g0; have s7 := pw_cell_below hb3 g1; have s8 := pw_cell_below hb3 g2; have s9 := pw_cell_below hb3 g3; have s10 := pw_cell_below hb3 g4; have s11 := pw_cell_below hb3 g5; have s12 := pw_cell_below hb3 q0; have s13 := pw_cell_below hb3 q1; have s14 := pw_cell_below hb3 q2; have s15 := pw_cell_below hb3 q3; have s16 := pw_cell_below hb3 q4; have s17 := pw_cell_below hb3 q5) | (go_at_call 46; refine (same_any A8 A5 _ _ c8 c5 y _ (Kd.C_below HC8.out (by first | assumption | exact Below.refl _ _ | (refine below_drew ?_; first | assumption | exact Below.refl _ _ | (refine below_drew ?_; first | assumption | exact Below.refl _ _) | (refine reach_alloc ?_ _; first | assumption | exact Below.refl _ _)) | (refine reach_alloc ?_ _; first | assumption | exact Below.refl _ _ | (refine below_drew ?_; first | assumption | exact Below.refl _ _) | (refine reach_alloc ?_ _; first | assumption | exact Below.refl _ _)))) hl8 (Kd.C_below HQ.out.2 (by first | assumption | exact Below.refl _ _ | (refine below_drew ?_; first | assumption | exact Below.refl _ _ | (refine below_drew ?_; first | assumption | exact Below.refl _ _) | (refine reach_alloc ?_ _; first | assumption | exact Below.refl _ _)) | (refine reach_alloc ?_ _; first | assumption | exact Below.refl _ _ | (refine below_drew ?_; first | assumption | exact Below.refl _ _) | (refine reach_alloc ?_ _; first | assumption | exact Below.refl _ _)))) HQ.out.1 (by omega)).mono ?_; rintro e wN ⟨rfl, hbN⟩; have hb3 : Below wc.heap.size wc wN := reach_then (by first | assumption | exact Below.refl _ _ | (refine below_drew ?_; first | assumption | exact Below.refl _ _ | (refine below_drew ?_; first | assumption | exact Below.refl _ _) | (refine reach_alloc ?_ _; first | assumption | exact Below.refl _ _)) | (refine reach_alloc ?_ _; first | assumption | exact Below.refl _ _ | (refine below_drew ?_; first | assumption | exact Below.refl _ _) | (refine reach_alloc ?_ _; first | assumption | exact Below.refl _ _))) hbN; have s0 := pw_cell_below hb3 d0; have s1 := pw_cell_below hb3 d1; have s2 := pw_cell_below hb3 d2; have s3 := pw_cell_below hb3 d3; have s4 := pw_cell_below hb3 t0; have s5 := pw_cell_below hb3 t1; have s6 := pw_cell_below hb3 g0; have s7 := pw_cell_below hb3 g1; have s8 := pw_cell_below hb3 g2; have s9 := pw_cell_below hb3 g3; have s10 := pw_cell_below hb3 g4; have s11 := pw_cell_below hb3 g5; have s12 := pw_cell_below hb3 q0; have s13 := pw_cell_below hb3 q1; have s14 := pw_cell_below hb3 q2; have s15 := pw_cell_below hb3 q3; have s16 := pw_cell_below hb3 q4; have s17 := pw_cell_below hb3 q5))
          all_goals
            go_wp2
            go_ret
            exact ⟨rfl, below_then hBW.out hBW.out.size hb3⟩
end Go.Proofs.Ytjcihhkeehjgdaa
