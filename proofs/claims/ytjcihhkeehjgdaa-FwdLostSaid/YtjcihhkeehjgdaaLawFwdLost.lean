/- FwdLost: the walk of the law. -/
import Derived.Test.YtjcihhkeehjgdaaFwdRef
namespace Go.Proofs.Ytjcihhkeehjgdaa
open Go.RowKit Go.Proofs.YtjcihhkeehjgdaaW.PrintWords Ytjcihhkeehjgdaa.PFwdSays
set_option linter.unusedVariables false
set_option linter.unusedSimpArgs false
attribute [local go_sem high] eqA69 eqA82 field75
def lostRows (s g i a b : Int) : List S78 := [⟨4, i, 0, ⟨0, g⟩, [a, b]⟩, ⟨4, i, 0, ⟨s, g⟩, [b]⟩]
theorem used_k {s g i a b : Int} (hs : s ≠ 0) : usedOf (lostRows s g i a b) 4 s g = some 1 := by
  have h0 : ((0 : Int) == s) = false := beq_eq_false_iff_ne.2 (fun e => hs e.symm)
  simp [usedOf, lostRows, firstOf, rowIs, h0]
theorem used_other {s g i a b o : Int} (ho : o ≠ 0) (hos : o ≠ s) : usedOf (lostRows s g i a b) 4 o g = some 0 := by
  have h0 : ((0 : Int) == o) = false := beq_eq_false_iff_ne.2 (fun e => ho e.symm)
  have h1 : (s == o) = false := beq_eq_false_iff_ne.2 (fun e => hos e.symm)
  simp [usedOf, lostRows, firstOf, rowIs, h0, h1]
theorem used_five {s g i a b : Int} : usedOf (lostRows s g i a b) 5 s g = none := by
  simp [usedOf, lostRows, firstOf, rowIs]
theorem deed_x {s g i a b : Int} (hs : s ≠ 0) (hb : i ≠ b) : deed (lostRows s g i a b) [] 4 s g i = ⟨2, s, g, [b]⟩ := by
  have h1 : (b == i) = false := beq_eq_false_iff_ne.2 (fun e => hb e.symm)
  unfold deed
  rw [used_k hs]
  simp [lostRows, leftOut, lostIn, h1]
theorem deed_y {s g i a b : Int} (hs : s ≠ 0) : deed (lostRows s g i a b) [⟨b, ⟨s, g⟩⟩] 4 s g i = ⟨2, s, g, []⟩ := by
  unfold deed
  rw [used_k hs]
  simp [lostRows, leftOut, lostIn, lostEq]
theorem deed_z {s g i a b o : Int} (ho : o ≠ 0) (hos : o ≠ s) (hb : i ≠ b) (hab : a ≠ b) : deed (lostRows s g i a b) [⟨b, ⟨s, g⟩⟩, ⟨a, ⟨o, g⟩⟩] 4 o g i = ⟨2, 0, g, [b]⟩ := by
  have h1 : (b == i) = false := beq_eq_false_iff_ne.2 (fun e => hb e.symm)
  have h2 : (b == a) = false := beq_eq_false_iff_ne.2 (fun e => hab e.symm)
  have h3 : (o == s) = false := beq_eq_false_iff_ne.2 hos
  unfold deed
  rw [used_other ho hos]
  simp [lostRows, leftOut, lostIn, lostEq, h1, h2, h3]
theorem deed_w {s g i a b : Int} (hs : s ≠ 0) (ha : i ≠ a) : deed (lostRows s g i a b) [] 4 s g a = ⟨1, s, g, []⟩ := by
  unfold deed
  rw [used_k hs]
  simp [lostRows, ha]
theorem deed_v {s g i a b : Int} : deed (lostRows s g i a b) [] 5 s g i = ⟨0, 0, 0, []⟩ := by
  unfold deed
  rw [used_five]
theorem small_rows (s g i a b : Int) : ∀ x ∈ lostRows s g i a b, x.f4.length ≤ 1000000 := by
  intro x hx
  simp [lostRows] at hx
  rcases hx with rfl | rfl <;> simp
theorem inc_ne (s : Int) (h : (Lit.int .u32 s).wf = true) : IntKind.u32.wrap (s + 1) ≠ s := by
  have h2 : 0 ≤ s ∧ s ≤ 4294967295 := by simpa [Lit.wf, IntKind.min, IntKind.max, IntKind.bits, IntKind.signed] using h
  have h3 : IntKind.u32.wrap (s + 1) = (s + 1) % 4294967296 := by simp [IntKind.wrap, IntKind.bits, IntKind.signed]
  rw [h3]
  omega
theorem mem5 (w : World) (O1 O2 O3 O4 O5 : Obj) :
    let W := ((((w.alloc O1).alloc O2).alloc O3).alloc O4).alloc O5
    Below w.heap.size w W ∧ W.heap.size = w.heap.size + 5 ∧ W.heap[w.heap.size]? = some O1 ∧ W.heap[w.heap.size + 1]? = some O2 ∧ W.heap[w.heap.size + 1 + 1]? = some O3 ∧ W.heap[w.heap.size + 1 + 1 + 1]? = some O4 ∧ W.heap[w.heap.size + 1 + 1 + 1 + 1]? = some O5 := by
  have n1 := heap_alloc_new w O1
  have n2 := heap_alloc_new (w.alloc O1) O2
  have n3 := heap_alloc_new ((w.alloc O1).alloc O2) O3
  have n4 := heap_alloc_new (((w.alloc O1).alloc O2).alloc O3) O4
  have n5 := heap_alloc_new ((((w.alloc O1).alloc O2).alloc O3).alloc O4) O5
  have s1 : (w.alloc O1).heap.size = w.heap.size + 1 := by simp
  have s2 : ((w.alloc O1).alloc O2).heap.size = w.heap.size + 1 + 1 := by simp
  have s3 : (((w.alloc O1).alloc O2).alloc O3).heap.size = w.heap.size + 1 + 1 + 1 := by simp
  have s4 : ((((w.alloc O1).alloc O2).alloc O3).alloc O4).heap.size = w.heap.size + 1 + 1 + 1 + 1 := by simp
  have s5 : (((((w.alloc O1).alloc O2).alloc O3).alloc O4).alloc O5).heap.size = w.heap.size + 5 := by simp
  rw [s1] at n2
  rw [s2] at n3
  rw [s3] at n4
  rw [s4] at n5
  exact ⟨((((Below.refl _ w).alloc (Nat.le_refl _) O1).alloc (by omega) O2).alloc (by omega) O3).alloc (by omega) O4 |>.alloc (by omega) O5, s5, blk_alloc (blk_alloc (blk_alloc (blk_alloc n1 O2) O3) O4) O5, blk_alloc (blk_alloc (blk_alloc n2 O3) O4) O5, blk_alloc (blk_alloc n3 O4) O5, blk_alloc n4 O5, n5⟩
structure LostMem (s g i a b o : Int) (bk ba bo : Nat) (A : Option Addr) (W : World) : Prop where
  k : W.heap[bk]? = some (.cells #[.int .u32 s, .int .u32 g] 69 (0, 0))
  any : W.heap[ba]? = some (.cells #[.int .u32 0, .int .u32 g] 69 (0, 0))
  other : W.heap[bo]? = some (.cells #[.int .u32 o, .int .u32 g] 69 (0, 0))
  rows : k78.C W A 2 (lostRows s g i a b)
theorem LostMem.below {s g i a b o : Int} {bk ba bo : Nat} {A : Option Addr} {W W' : World} (h : LostMem s g i a b o bk ba bo A W) (hb : Below W.heap.size W W') : LostMem s g i a b o bk ba bo A W' :=
  ⟨blk_below h.k hb, blk_below h.any hb, blk_below h.other hb, Kd.C_below h.rows hb⟩
structure DeedAt (gd : Nat) (kind s g : Int) (A : Option Addr) (n c : Nat) (out : List Int) (W : World) : Prop where
  blk : W.heap[gd]? = some (.cells #[.int .i64 kind, .int .u32 s, .int .u32 g, .slice A n c] 75 (0, 0))
  le : n ≤ c
  C : (Kd.int .i64).C W A n out
theorem DeedAt.below {gd : Nat} {kind s g : Int} {A : Option Addr} {n c : Nat} {out : List Int} {W W' : World} (h : DeedAt gd kind s g A n c out W) (hb : Below W.heap.size W W') : DeedAt gd kind s g A n c out W' :=
  ⟨blk_below h.blk hb, h.le, Kd.C_below h.C hb⟩
theorem DeedAt.new {kind s g : Int} {A : Option Addr} {n c : Nat} {out : List Int} {w : World} (hl : n ≤ c) (hC : (Kd.int .i64).C w A n out) : DeedAt w.heap.size kind s g A n c out (w.alloc (.cells #[.int .i64 kind, .int .u32 s, .int .u32 g, .slice A n c] 75 (0, 0))) :=
  ⟨heap_alloc_new _ _, hl, Kd.C_below hC ((Below.refl _ _).alloc (Nat.le_refl _) _)⟩
theorem lost_lit1 (W : World) (b s g : Int) : k82.C (W.alloc (.cells #[.int .i64 b, .int .u32 s, .int .u32 g] 82 (0, 0))) (some ⟨W.heap.size, 0, none⟩) 1 [⟨b, ⟨s, g⟩⟩] :=
  C_of_block k82 (xs := [⟨b, ⟨s, g⟩⟩]) (heap_alloc_new W _) ((Reps.none _ _).snoc (cs := []) (k82_mk _ ⟨b, ⟨s, g⟩⟩) rfl) (by simp)
theorem lost_lit2 (W : World) (b s g a t u : Int) : k82.C (W.alloc (.cells #[.int .i64 b, .int .u32 s, .int .u32 g, .int .i64 a, .int .u32 t, .int .u32 u] 82 (0, 0))) (some ⟨W.heap.size, 0, none⟩) 2 [⟨b, ⟨s, g⟩⟩, ⟨a, ⟨t, u⟩⟩] :=
  C_of_block k82 (xs := [⟨b, ⟨s, g⟩⟩, ⟨a, ⟨t, u⟩⟩]) (heap_alloc_new W _) (((Reps.none _ _).snoc (cs := []) (k82_mk _ ⟨b, ⟨s, g⟩⟩) rfl).snoc (k82_mk _ ⟨a, ⟨t, u⟩⟩) rfl) (by simp)
theorem lost_mem (w : World) (s g i a b o : Int) (bk : Nat) (hk : w.heap[bk]? = some (.cells #[.int .u32 s, .int .u32 g] 69 (0, 0))) :
    let W := ((((w.alloc (.cells #[.int .u32 0, .int .u32 g] 69 (0, 0))).alloc (.cells #[.int .i64 a, .int .i64 b] 3 (0, 0))).alloc (.cells #[.int .i64 b] 3 (0, 0))).alloc (.cells #[.int .i64 4, .int .i64 i, .int .i64 0, .int .u32 0, .int .u32 g, .slice (some ⟨w.heap.size + 1, 0, none⟩) 2 2, .int .i64 4, .int .i64 i, .int .i64 0, .int .u32 s, .int .u32 g, .slice (some ⟨w.heap.size + 1 + 1, 0, none⟩) 1 1] 78 (0, 0))).alloc (.cells #[.int .u32 o, .int .u32 g] 69 (0, 0))
    Below w.heap.size w W ∧ W.heap.size = w.heap.size + 5 ∧ LostMem s g i a b o bk w.heap.size (w.heap.size + 1 + 1 + 1 + 1) (some ⟨w.heap.size + 1 + 1 + 1, 0, none⟩) W := by
  obtain ⟨hb, hs, n1, n2, n3, n4, n5⟩ := mem5 w (.cells #[.int .u32 0, .int .u32 g] 69 (0, 0)) (.cells #[.int .i64 a, .int .i64 b] 3 (0, 0)) (.cells #[.int .i64 b] 3 (0, 0)) (.cells #[.int .i64 4, .int .i64 i, .int .i64 0, .int .u32 0, .int .u32 g, .slice (some ⟨w.heap.size + 1, 0, none⟩) 2 2, .int .i64 4, .int .i64 i, .int .i64 0, .int .u32 s, .int .u32 g, .slice (some ⟨w.heap.size + 1 + 1, 0, none⟩) 1 1] 78 (0, 0)) (.cells #[.int .u32 o, .int .u32 g] 69 (0, 0))
  refine ⟨hb, hs, blk_below hk hb, n1, n5, ?_⟩
  generalize ((((w.alloc (.cells #[.int .u32 0, .int .u32 g] 69 (0, 0))).alloc (.cells #[.int .i64 a, .int .i64 b] 3 (0, 0))).alloc (.cells #[.int .i64 b] 3 (0, 0))).alloc (.cells #[.int .i64 4, .int .i64 i, .int .i64 0, .int .u32 0, .int .u32 g, .slice (some ⟨w.heap.size + 1, 0, none⟩) 2 2, .int .i64 4, .int .i64 i, .int .i64 0, .int .u32 s, .int .u32 g, .slice (some ⟨w.heap.size + 1 + 1, 0, none⟩) 1 1] 78 (0, 0))).alloc (.cells #[.int .u32 o, .int .u32 g] 69 (0, 0)) = W at *
  have hAB : (Kd.int .i64).C W (some ⟨w.heap.size + 1, 0, none⟩) 2 [a, b] := C_of_block (Kd.int .i64) (xs := [a, b]) n2 (((Reps.none _ _).snoc (cs := []) (p := a) (c := [.int .i64 a]) rfl rfl).snoc (p := b) (c := [.int .i64 b]) rfl rfl) (by simp)
  have hB : (Kd.int .i64).C W (some ⟨w.heap.size + 1 + 1, 0, none⟩) 1 [b] := C_of_block (Kd.int .i64) (xs := [b]) n3 ((Reps.none _ _).snoc (cs := []) (p := b) (c := [.int .i64 b]) rfl rfl) (by simp)
  exact C_of_block k78 (xs := lostRows s g i a b) n4 (lit_row W _ 1 ⟨4, i, 0, ⟨s, g⟩, [b]⟩ (by simp) hB _ _ (lit_row W _ 2 ⟨4, i, 0, ⟨0, g⟩, [a, b]⟩ (by simp) hAB [] [] (Reps.none _ _))) (by simp [lostRows])
set_option maxHeartbeats 8000000 in
set_option maxRecDepth 100000 in
theorem fwdLost_all (s g i a b : Int) (hsw : (Lit.int .u32 s).wf = true) (w : World) :
    Calls Try.prog 12 #[.agg #[.int .u32 s, .int .u32 g], .int .i64 i, .int .i64 a, .int .i64 b] w fun e w' => e = .returned (.bool true) ∧ Below w.heap.size w w' := by
  have hu78 := Try.underlying78
  have hu69 := Try.underlying69
  have hu71 := Try.underlying71
  have hu75 := Try.underlying75
  have hu82 := Try.underlying82
  have hb0 := Below.alloc (Below.refl w.heap.size w) (Nat.le_refl _) (.cells #[.int .u32 s, .int .u32 g] 69 (0, 0))
  have h0 := heap_alloc_new w (.cells #[.int .u32 s, .int .u32 g] 69 (0, 0))
  have hs0 : (w.alloc (.cells #[.int .u32 s, .int .u32 g] 69 (0, 0))).heap.size = w.heap.size + 1 := by simp
  have HS := Aside0.mk (And.intro hb0 (And.intro h0 hs0))
  clear hb0 h0 hs0
  by_cases hall : (i ≠ a ∧ i ≠ b) ∧ a ≠ b ∧ s ≠ 0
  · obtain ⟨⟨hia, hib⟩, hab, hsn⟩ := hall
    have e1 : (i == a) = false := beq_eq_false_iff_ne.2 hia
    have e2 : (i == b) = false := beq_eq_false_iff_ne.2 hib
    have e3 : (a == b) = false := beq_eq_false_iff_ne.2 hab
    have e4 : (s == 0) = false := beq_eq_false_iff_ne.2 hsn
    have HN := Aside0.mk (And.intro hia (And.intro hib (And.intro hab hsn)))
    clear hia hib hab hsn
    go_enter Try.func12, Try.ntmps12
    go_wp2_with fail
    obtain ⟨hb0, h0, hs0⟩ := HS.out
    clear HS
    generalize w.alloc (.cells #[.int .u32 s, .int .u32 g] 69 (0, 0)) = W at *
    obtain ⟨bk, hbw⟩ : ∃ b, b = w.heap.size := ⟨_, rfl⟩
    rw [← hbw] at h0 hs0 ⊢
    have HW := Aside0.mk hbw
    clear hbw
    refine (first19_any W).mono ?_
    rintro e w2 ⟨rfl, hb2⟩
    have hB2 := below_then hb0 (by have := HW.out; omega) hb2
    have h2 := blk_below h0 hb2
    have hs2 := hb2.size
    clear hb0 hb2 h0
    have hlt : bk < w2.heap.size := by omega
    have hlt1 : bk < w2.heap.size + 1 := by omega
    have hlt2 : bk < w2.heap.size + 1 + 1 := by omega
    have hlt3 : bk < w2.heap.size + 1 + 1 + 1 := by omega
    have hlt4 : bk < w2.heap.size + 1 + 1 + 1 + 1 := by omega
    have p0 := (blk_cell h2 0).trans rfl
    have p1 := (blk_cell h2 1).trans rfl
    have H2 := Aside0.mk h2
    have HB2 := Aside0.mk hB2
    clear h2 hB2
    go_wp2_with fail
    obtain ⟨o, ho⟩ : ∃ o, o = (s + 1) % 4294967296 := ⟨_, rfl⟩
    rw [← ho]
    have hos : o ≠ s := by
      have h2 : 0 ≤ s ∧ s ≤ 4294967295 := by simpa [Lit.wf, IntKind.min, IntKind.max, IntKind.bits, IntKind.signed] using hsw
      omega
    have HOS := Aside0.mk hos
    clear ho hos p0 p1
    obtain ⟨hb5, hs5, hM⟩ := lost_mem w2 s g i a b o bk H2.out
    generalize ((((w2.alloc (.cells #[.int .u32 0, .int .u32 g] 69 (0, 0))).alloc (.cells #[.int .i64 a, .int .i64 b] 3 (0, 0))).alloc (.cells #[.int .i64 b] 3 (0, 0))).alloc (.cells #[.int .i64 4, .int .i64 i, .int .i64 0, .int .u32 0, .int .u32 g, .slice (some ⟨w2.heap.size + 1, 0, none⟩) 2 2, .int .i64 4, .int .i64 i, .int .i64 0, .int .u32 s, .int .u32 g, .slice (some ⟨w2.heap.size + 1 + 1, 0, none⟩) 1 1] 78 (0, 0))).alloc (.cells #[.int .u32 o, .int .u32 g] 69 (0, 0)) = W5 at *
    have HB5 := Aside0.mk (below_then HB2.out HB2.out.size hb5)
    obtain ⟨ba, hba⟩ : ∃ ba, ba = w2.heap.size := ⟨_, rfl⟩
    obtain ⟨bo, hbo⟩ : ∃ bo, bo = w2.heap.size + 1 + 1 + 1 + 1 := ⟨_, rfl⟩
    obtain ⟨A4, hA4⟩ : ∃ A, A = some (⟨w2.heap.size + 1 + 1 + 1, 0, none⟩ : Addr) := ⟨_, rfl⟩
    rw [← hbo, ← hA4] at hM ⊢
    rw [← hba] at hM ⊢
    have hbas : ba < W5.heap.size := by omega
    have hbos : bo < W5.heap.size := by omega
    have hbks : bk < W5.heap.size := by omega
    clear hb5 hs5 hba hbo hA4 hlt hlt1 hlt2 hlt3 hlt4 H2 HB2 hs2 hs0
    refine (do_any A4 none 2 2 0 0 _ [] 4 s g i W5 hM.rows (C_lost_none W5) (small_rows s g i a b)).mono ?_
    rw [deed_x HN.out.2.2.2 HN.out.2.1]
    rintro e w6 ⟨Ax, nx, cx, rfl, hlx, hCx, hb6⟩
    simp only at hCx ⊢
    have hM6 := hM.below hb6
    have HB6 := Aside0.mk (below_then HB5.out HB5.out.size hb6)
    have hs6 := hb6.size
    have q0 := (blk_cell hM6.k 0).trans rfl
    have q1 := (blk_cell hM6.k 1).trans rfl
    have hk6 : bk < w6.heap.size := by omega
    have hk6' : bk < w6.heap.size + 1 := by omega
    have HM6 := Aside0.mk hM6
    have HX6 := Aside0.mk (And.intro hlx hCx)
    have ha6 : ba < w6.heap.size := by omega
    have ho6 : bo < w6.heap.size := by omega
    clear hM HB5 hCx hlx hb6 hM6 hbas hbos hbks hs6
    go_wp2_with fail
    clear q0 q1 hk6 hk6' ha6 ho6
    have hD1 := DeedAt.new (kind := 2) (s := s) (g := g) HX6.out.1 HX6.out.2
    have hb61 := Below.alloc (Below.refl w6.heap.size w6) (Nat.le_refl _) (.cells #[.int .i64 2, .int .u32 s, .int .u32 g, .slice Ax nx cx] 75 (0, 0))
    have hs61 : (w6.alloc (.cells #[.int .i64 2, .int .u32 s, .int .u32 g, .slice Ax nx cx] 75 (0, 0))).heap.size = w6.heap.size + 1 := by simp
    have hM61 := HM6.out.below hb61
    have hB61 := below_then HB6.out HB6.out.size hb61
    generalize w6.alloc (.cells #[.int .i64 2, .int .u32 s, .int .u32 g, .slice Ax nx cx] 75 (0, 0)) = V1 at *
    have hL1 := lost_lit1 V1 b s g
    have hb62 := Below.alloc (Below.refl V1.heap.size V1) (Nat.le_refl _) (.cells #[.int .i64 b, .int .u32 s, .int .u32 g] 82 (0, 0))
    have hs62 : (V1.alloc (.cells #[.int .i64 b, .int .u32 s, .int .u32 g] 82 (0, 0))).heap.size = V1.heap.size + 1 := by simp
    have hM62 := hM61.below hb62
    have hB62 := below_then hB61 hB61.size hb62
    have hD62 := hD1.below hb62
    generalize V1.alloc (.cells #[.int .i64 b, .int .u32 s, .int .u32 g] 82 (0, 0)) = V2 at *
    rw [hs61] at hL1
    obtain ⟨gx, hgx⟩ : ∃ gx, gx = w6.heap.size := ⟨_, rfl⟩
    rw [← hgx] at hL1 hD62 ⊢
    clear hgx hD1 hb61 hM61 hB61 hb62 HX6 HM6 HB6
    refine (do_any A4 _ 2 2 1 1 _ [⟨b, ⟨s, g⟩⟩] 4 s g i V2 hM62.rows hL1 (small_rows s g i a b)).mono ?_
    rw [deed_y HN.out.2.2.2]
    rintro e w7 ⟨Ay, ny, cy, rfl, hly, hCy, hb7⟩
    simp only at hCy ⊢
    obtain rfl : ny = 0 := by have := hCy.1; simpa using this.symm
    have hM7 := hM62.below hb7
    have hD7 := hD62.below hb7
    have hB7 := below_then hB62 hB62.size hb7
    have hDy := DeedAt.new (kind := 2) (s := s) (g := g) hly hCy
    have hb71 := Below.alloc (Below.refl w7.heap.size w7) (Nat.le_refl _) (.cells #[.int .i64 2, .int .u32 s, .int .u32 g, .slice Ay 0 cy] 75 (0, 0))
    have hs71 : (w7.alloc (.cells #[.int .i64 2, .int .u32 s, .int .u32 g, .slice Ay 0 cy] 75 (0, 0))).heap.size = w7.heap.size + 1 := by simp
    have x0 := (blk_cell hD7.blk 0).trans rfl
    have x1 := (blk_cell hD7.blk 1).trans rfl
    have x2 := (blk_cell hD7.blk 2).trans rfl
    have x3 := (blk_cell hD7.blk 3).trans rfl
    have hgx7 := blk_lt hD7.blk
    have hgx7' : gx < w7.heap.size + 1 := by omega
    have HF7 := Aside0.mk (And.intro (hM7.below hb71) (And.intro (hD7.below hb71) (And.intro (below_then hB7 hB7.size hb71) (And.intro hDy hs71))))
    clear hM7 hD7 hB7 hDy hs71 hb71 hb7 hly hCy hM62 hD62 hB62 hL1 hs61 hs62
    go_wp2_with fail
    obtain ⟨hM8, hX8, hB8, hY8, hs8⟩ := HF7.out
    clear HF7 x0 x1 x2 x3 hgx7 hgx7'
    generalize w7.alloc (.cells #[.int .i64 2, .int .u32 s, .int .u32 g, .slice Ay 0 cy] 75 (0, 0)) = V3 at *
    have hL9 := lit_C .i64 V3 3 [b] (by simp)
    have hb9 := Below.alloc (Below.refl V3.heap.size V3) (Nat.le_refl _) (.cells (nums .i64 [b]).toArray 3 (0, 0))
    have hM9 := hM8.below hb9
    have hX9 := hX8.below hb9
    have hY9 := hY8.below hb9
    have hB9 := below_then hB8 hB8.size hb9
    rw [hs8] at hL9
    change (Kd.int .i64).C (V3.alloc (.cells #[.int .i64 b] 3 (0, 0))) _ _ _ at hL9
    change LostMem _ _ _ _ _ _ _ _ _ _ (V3.alloc (.cells #[.int .i64 b] 3 (0, 0))) at hM9
    change DeedAt _ _ _ _ _ _ _ _ (V3.alloc (.cells #[.int .i64 b] 3 (0, 0))) at hX9
    change DeedAt _ _ _ _ _ _ _ _ (V3.alloc (.cells #[.int .i64 b] 3 (0, 0))) at hY9
    change Below _ _ (V3.alloc (.cells #[.int .i64 b] 3 (0, 0))) at hB9
    clear hb9
    generalize V3.alloc (.cells #[.int .i64 b] 3 (0, 0)) = V4 at *
    obtain ⟨gy, hgy⟩ : ∃ gy, gy = w7.heap.size := ⟨_, rfl⟩
    rw [← hgy] at hY9 hL9 ⊢
    clear hgy hs8 hM8 hX8 hY8 hB8
    refine (sameInts_any _ _ nx 1 cx 1 [b] [b] _ hX9.C hL9 hX9.le (Nat.le_refl _) (by simp)).mono ?_
    rintro e w9 ⟨rfl, m, rfl⟩
    rw [show decide ([b] = [b]) = true from decide_eq_true rfl]
    have hbd := pw_below_drewN (Below.refl V4.heap.size V4) m
    have hM10 := hM9.below hbd
    have hX10 := hX9.below hbd
    have hY10 := hY9.below hbd
    have hB10 := below_then hB9 hB9.size hbd
    clear hM9 hX9 hY9 hB9 hL9 hbd
    generalize V4.drewN m = V5 at *
    have x1 := (blk_cell hX10.blk 1).trans rfl
    have x2 := (blk_cell hX10.blk 2).trans rfl
    have y0 := (blk_cell hY10.blk 0).trans rfl
    have y3 := (blk_cell hY10.blk 3).trans rfl
    have k0 := (blk_cell hM10.k 0).trans rfl
    have k1 := (blk_cell hM10.k 1).trans rfl
    have HF10 := Aside0.mk (And.intro hM10 (And.intro hX10 (And.intro hY10 hB10)))
    clear hM10 hX10 hY10 hB10
    go_wp2_with fail
    clear x1 x2 y0 y3 k0 k1
    obtain ⟨hM10, hX10, hY10, hB10⟩ := HF10.out
    clear HF10
    refine (sameKey_any s g s g _).mono ?_
    rintro e w11 ⟨rfl, hb11⟩
    rw [beq_self_eq_true, beq_self_eq_true, Bool.and_self]
    have hM11 := hM10.below hb11
    have hB11 := below_then hB10 hB10.size hb11
    clear hM10 hX10 hY10 hB10 hb11
    have o0 := (blk_cell hM11.other 0).trans rfl
    have o1 := (blk_cell hM11.other 1).trans rfl
    have k0 := (blk_cell hM11.k 0).trans rfl
    have k1 := (blk_cell hM11.k 1).trans rfl
    have ho11 := blk_lt hM11.other
    have hk11 := blk_lt hM11.k
    have HM11 := Aside0.mk hM11
    have HB11 := Aside0.mk hB11
    clear hM11 hB11
    by_cases hoz : o = 0
    · have e5 : (o == 0) = true := beq_iff_eq.2 hoz
      go_wp2
      go_ret
      exact ⟨rfl, HB11.out⟩
    · have e5 : (o == 0) = false := beq_eq_false_iff_ne.2 hoz
      have HOZ := Aside0.mk hoz
      clear hoz
      go_wp2_with fail
      clear o0 o1 k0 k1 ho11 hk11
      have hL12 := lost_lit2 w11 b s g a o g
      have hb12 := Below.alloc (Below.refl w11.heap.size w11) (Nat.le_refl _) (.cells #[.int .i64 b, .int .u32 s, .int .u32 g, .int .i64 a, .int .u32 o, .int .u32 g] 82 (0, 0))
      have hM12 := HM11.out.below hb12
      have hB12 := below_then HB11.out HB11.out.size hb12
      clear hb12 HM11 HB11
      generalize w11.alloc (.cells #[.int .i64 b, .int .u32 s, .int .u32 g, .int .i64 a, .int .u32 o, .int .u32 g] 82 (0, 0)) = V6 at *
      refine (do_any A4 _ 2 2 2 2 _ [⟨b, ⟨s, g⟩⟩, ⟨a, ⟨o, g⟩⟩] 4 o g i V6 hM12.rows hL12 (small_rows s g i a b)).mono ?_
      rw [deed_z HOZ.out HOS.out HN.out.2.1 HN.out.2.2.1]
      rintro e w13 ⟨Az, nz, cz, rfl, hlz, hCz, hb13⟩
      simp only at hCz ⊢
      have hM13 := hM12.below hb13
      have hB13 := below_then hB12 hB12.size hb13
      have hZ13 := DeedAt.new (kind := 2) (s := 0) (g := g) hlz hCz
      have hb14 := Below.alloc (Below.refl w13.heap.size w13) (Nat.le_refl _) (.cells #[.int .i64 2, .int .u32 0, .int .u32 g, .slice Az nz cz] 75 (0, 0))
      have k0 := (blk_cell hM13.k 0).trans rfl
      have k1 := (blk_cell hM13.k 1).trans rfl
      have hk13 := blk_lt hM13.k
      have HF14 := Aside0.mk (And.intro (hM13.below hb14) (And.intro hZ13 (below_then hB13 hB13.size hb14)))
      clear hM12 hB12 hM13 hB13 hZ13 hb14 hb13 hL12 hCz hlz
      go_wp2_with fail
      clear k0 k1 hk13
      obtain ⟨hM14, hZ14, hB14⟩ := HF14.out
      clear HF14
      generalize w13.alloc (.cells #[.int .i64 2, .int .u32 0, .int .u32 g, .slice Az nz cz] 75 (0, 0)) = V7 at *
      obtain ⟨gz, hgz⟩ : ∃ gz, gz = w13.heap.size := ⟨_, rfl⟩
      rw [← hgz] at hZ14 ⊢
      clear hgz
      refine (do_any A4 none 2 2 0 0 _ [] 4 s g a V7 hM14.rows (C_lost_none _) (small_rows s g i a b)).mono ?_
      rw [deed_w HN.out.2.2.2 HN.out.1]
      rintro e w15 ⟨Aw, nw, cw, rfl, hlw, hCw, hb15⟩
      simp only at hCw ⊢
      obtain rfl : nw = 0 := by have := hCw.1; simpa using this.symm
      have hM15 := hM14.below hb15
      have hZ15 := hZ14.below hb15
      have hB15 := below_then hB14 hB14.size hb15
      have hW15 := DeedAt.new (kind := 1) (s := s) (g := g) hlw hCw
      have hb16 := Below.alloc (Below.refl w15.heap.size w15) (Nat.le_refl _) (.cells #[.int .i64 1, .int .u32 s, .int .u32 g, .slice Aw 0 cw] 75 (0, 0))
      have k0 := (blk_cell hM15.k 0).trans rfl
      have k1 := (blk_cell hM15.k 1).trans rfl
      have hk15 := blk_lt hM15.k
      have HF16 := Aside0.mk (And.intro (hM15.below hb16) (And.intro (hZ15.below hb16) (And.intro hW15 (below_then hB15 hB15.size hb16))))
      clear hM14 hZ14 hB14 hb15 hM15 hZ15 hB15 hW15 hb16 hlw hCw
      go_wp2_with fail
      clear k0 k1 hk15
      obtain ⟨hM16, hZ16, hW16, hB16⟩ := HF16.out
      clear HF16
      generalize w15.alloc (.cells #[.int .i64 1, .int .u32 s, .int .u32 g, .slice Aw 0 cw] 75 (0, 0)) = V8 at *
      obtain ⟨gw, hgw⟩ : ∃ gw, gw = w15.heap.size := ⟨_, rfl⟩
      rw [← hgw] at hW16 ⊢
      clear hgw
      refine (do_any A4 none 2 2 0 0 _ [] 5 s g i V8 hM16.rows (C_lost_none _) (small_rows s g i a b)).mono ?_
      rw [deed_v]
      rintro e w17 ⟨Av, nv, cv, rfl, hlv, hCv, hb17⟩
      simp only at hCv ⊢
      have hM17 := hM16.below hb17
      have hZ17 := hZ16.below hb17
      have hW17 := hW16.below hb17
      have hB17 := below_then hB16 hB16.size hb17
      have hV17 := DeedAt.new (kind := 0) (s := 0) (g := 0) hlv hCv
      have hb18 := Below.alloc (Below.refl w17.heap.size w17) (Nat.le_refl _) (.cells #[.int .i64 0, .int .u32 0, .int .u32 0, .slice Av nv cv] 75 (0, 0))
      have hs18 : (w17.alloc (.cells #[.int .i64 0, .int .u32 0, .int .u32 0, .slice Av nv cv] 75 (0, 0))).heap.size = w17.heap.size + 1 := by simp
      have z0 := (blk_cell hZ17.blk 0).trans rfl
      have z3 := (blk_cell hZ17.blk 3).trans rfl
      have hz17 := blk_lt hZ17.blk
      have HF18 := Aside0.mk (And.intro (hM17.below hb18) (And.intro (hZ17.below hb18) (And.intro (hW17.below hb18) (And.intro hV17 (And.intro (below_then hB17 hB17.size hb18) hs18)))))
      clear hM16 hZ16 hW16 hB16 hb17 hM17 hZ17 hW17 hB17 hV17 hb18 hlv hCv hs18
      go_wp2_with fail
      clear z0 z3 hz17
      obtain ⟨hM18, hZ18, hW18, hV18, hB18, hs18⟩ := HF18.out
      clear HF18
      generalize w17.alloc (.cells #[.int .i64 0, .int .u32 0, .int .u32 0, .slice Av nv cv] 75 (0, 0)) = V9 at *
      have hL19 := lit_C .i64 V9 3 [b] (by simp)
      have hb19 := Below.alloc (Below.refl V9.heap.size V9) (Nat.le_refl _) (.cells (nums .i64 [b]).toArray 3 (0, 0))
      have hM19 := hM18.below hb19
      have hZ19 := hZ18.below hb19
      have hW19 := hW18.below hb19
      have hV19 := hV18.below hb19
      have hB19 := below_then hB18 hB18.size hb19
      rw [hs18] at hL19
      change (Kd.int .i64).C (V9.alloc (.cells #[.int .i64 b] 3 (0, 0))) _ _ _ at hL19
      change LostMem _ _ _ _ _ _ _ _ _ _ (V9.alloc (.cells #[.int .i64 b] 3 (0, 0))) at hM19
      change DeedAt _ _ _ _ _ _ _ _ (V9.alloc (.cells #[.int .i64 b] 3 (0, 0))) at hZ19
      change DeedAt _ _ _ _ _ _ _ _ (V9.alloc (.cells #[.int .i64 b] 3 (0, 0))) at hW19
      change DeedAt _ _ _ _ _ _ _ _ (V9.alloc (.cells #[.int .i64 b] 3 (0, 0))) at hV19
      change Below _ _ (V9.alloc (.cells #[.int .i64 b] 3 (0, 0))) at hB19
      clear hb19
      generalize V9.alloc (.cells #[.int .i64 b] 3 (0, 0)) = V10 at *
      obtain ⟨gv, hgv⟩ : ∃ gv, gv = w17.heap.size := ⟨_, rfl⟩
      rw [← hgv] at hV19 hL19 ⊢
      clear hgv hs18 hM18 hZ18 hW18 hV18 hB18
      refine (sameInts_any _ _ nz 1 cz 1 [b] [b] _ hZ19.C hL19 hZ19.le (Nat.le_refl _) (by simp)).mono ?_
      rintro e w19 ⟨rfl, m, rfl⟩
      rw [show decide ([b] = [b]) = true from decide_eq_true rfl]
      have hbd := pw_below_drewN (Below.refl V10.heap.size V10) m
      have hM20 := hM19.below hbd
      have hZ20 := hZ19.below hbd
      have hW20 := hW19.below hbd
      have hV20 := hV19.below hbd
      have hB20 := below_then hB19 hB19.size hbd
      clear hM19 hZ19 hW19 hV19 hB19 hL19 hbd
      generalize V10.drewN m = V11 at *
      have z1 := (blk_cell hZ20.blk 1).trans rfl
      have z2 := (blk_cell hZ20.blk 2).trans rfl
      have a0 := (blk_cell hM20.any 0).trans rfl
      have a1 := (blk_cell hM20.any 1).trans rfl
      have HF20 := Aside0.mk (And.intro hW20 (And.intro hV20 hB20))
      clear hM20 hZ20 hW20 hV20 hB20
      go_wp2_with fail
      clear z1 z2 a0 a1
      obtain ⟨hW20, hV20, hB20⟩ := HF20.out
      clear HF20
      refine (sameKey_any 0 g 0 g _).mono ?_
      rintro e w21 ⟨rfl, hb21⟩
      rw [beq_self_eq_true, beq_self_eq_true, Bool.and_self]
      have hW21 := hW20.below hb21
      have hV21 := hV20.below hb21
      have hB21 := below_then hB20 hB20.size hb21
      have HB21 := Aside0.mk hB21
      have c0 := (blk_cell hW21.blk 0).trans rfl
      have c3 := (blk_cell hW21.blk 3).trans rfl
      have d0 := (blk_cell hV21.blk 0).trans rfl
      clear hW20 hV20 hB20 hb21 hW21 hV21 hB21
      go_wp2
      go_ret
      exact ⟨rfl, HB21.out⟩
  · by_cases h1 : i = a
    · have e1 : (i == a) = true := beq_iff_eq.2 h1
      clear h1 hall
      go_enter Try.func12, Try.ntmps12
      go_wp2_with fail
      obtain ⟨hb0, h0, hs0⟩ := HS.out
      refine (first19_any _).mono ?_
      rintro e w2 ⟨rfl, hb2⟩
      have HB := Aside0.mk (below_then hb0 hb0.size hb2)
      clear HS hb0 h0 hs0 hb2
      go_wp2
      go_ret
      exact ⟨rfl, HB.out⟩
    · have e1 : (i == a) = false := beq_eq_false_iff_ne.2 h1
      by_cases h2 : i = b
      · have e2 : (i == b) = true := beq_iff_eq.2 h2
        clear h1 h2 hall
        go_enter Try.func12, Try.ntmps12
        go_wp2_with fail
        obtain ⟨hb0, h0, hs0⟩ := HS.out
        refine (first19_any _).mono ?_
        rintro e w2 ⟨rfl, hb2⟩
        have HB := Aside0.mk (below_then hb0 hb0.size hb2)
        clear HS hb0 h0 hs0 hb2
        go_wp2
        go_ret
        exact ⟨rfl, HB.out⟩
      · have e2 : (i == b) = false := beq_eq_false_iff_ne.2 h2
        by_cases h3 : a = b
        · have e3 : (a == b) = true := beq_iff_eq.2 h3
          clear h1 h2 h3 hall
          go_enter Try.func12, Try.ntmps12
          go_wp2_with fail
          obtain ⟨hb0, h0, hs0⟩ := HS.out
          refine (first19_any _).mono ?_
          rintro e w2 ⟨rfl, hb2⟩
          have HB := Aside0.mk (below_then hb0 hb0.size hb2)
          clear HS hb0 h0 hs0 hb2
          go_wp2
          go_ret
          exact ⟨rfl, HB.out⟩
        · have e3 : (a == b) = false := beq_eq_false_iff_ne.2 h3
          have h4 : s = 0 := by
            rcases Classical.em (s = 0) with h | h
            · exact h
            · exact absurd ⟨⟨h1, h2⟩, h3, h⟩ hall
          have e4 : (s == 0) = true := beq_iff_eq.2 h4
          clear h1 h2 h3 h4 hall
          go_enter Try.func12, Try.ntmps12
          go_wp2_with fail
          obtain ⟨hb0, h0, hs0⟩ := HS.out
          refine (first19_any _).mono ?_
          rintro e w2 ⟨rfl, hb2⟩
          have HB := Aside0.mk (below_then hb0 hb0.size hb2)
          have k0 := (blk_cell (blk_below h0 hb2) 0).trans rfl
          clear HS hb0 h0 hs0 hb2
          go_wp2
          go_ret
          exact ⟨rfl, HB.out⟩
end Go.Proofs.Ytjcihhkeehjgdaa
