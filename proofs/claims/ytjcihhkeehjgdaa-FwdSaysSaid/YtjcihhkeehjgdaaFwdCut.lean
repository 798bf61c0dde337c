/- Chapter 19: slices.Clone, slices.IndexFunc, slices.DeleteFunc at []int, the last two with the closure of fwd.Do. -/
import Derived.Test.YtjcihhkeehjgdaaFwdLost
import Derived.Deep.Upon
import Derived.Laws.IdiomCopy
namespace Go.Proofs.Ytjcihhkeehjgdaa
open Go.RowKit Go.Proofs.YtjcihhkeehjgdaaW.PrintWords Ytjcihhkeehjgdaa.PFwdSays
set_option linter.unusedVariables false
set_option linter.unusedSimpArgs false
theorem below_sets {B : Nat} {a : World} (b : Nat) (hb : B ≤ b) : ∀ (vs : List Value) (o : Nat) {w : World}, Below B a w → Below B a (w.setCells b o vs)
  | [], _, _, h => h
  | v :: r, o, _, h => below_sets b hb r (o + 1) (h.setCell (p := ⟨b, o, none⟩) hb v)
theorem grown_below {w a b : World} {row : Option Nat} (h : w.grownBy a row) (hb : Below a.heap.size a b) : w.grownBy b row :=
  ⟨hb.os.trans h.os, hb.tape.trans h.tape, hb.output.trans h.output, Nat.le_trans h.size hb.size, fun k hk hn => (hb.block k (Nat.lt_of_lt_of_le hk h.size)).trans (h.block k hk hn)⟩
theorem grown_of_below {a b : World} (row : Option Nat) (hb : Below a.heap.size a b) : a.grownBy b row :=
  ⟨hb.os, hb.tape, hb.output, hb.size, fun k hk _ => hb.block k hk⟩
theorem grown_set {w a : World} {g : Nat} (h : w.grownBy a (some g)) (i : Nat) (u : Value) : w.grownBy (a.setCell ⟨g, i, none⟩ u) (some g) := by
  have hb : Below 0 a (a.setCell ⟨g, i, none⟩ u) := (Below.refl 0 a).setCell (Nat.zero_le _) u
  refine ⟨hb.os.trans h.os, hb.tape.trans h.tape, hb.output.trans h.output, Nat.le_trans h.size hb.size, fun k hk hn => ?_⟩
  rw [Below.heap_setCell _ _ _ _ (by intro e; exact hn (by rw [e])), h.block k hk hn]
theorem grown_sets {w a : World} {g : Nat} (h : w.grownBy a (some g)) (i : Nat) (vs : List Value) : w.grownBy (a.setCells g i vs) (some g) := by
  have hb : Below 0 a (a.setCells g i vs) := below_sets g (Nat.zero_le _) vs i (Below.refl 0 a)
  refine ⟨hb.os.trans h.os, hb.tape.trans h.tape, hb.output.trans h.output, Nat.le_trans h.size hb.size, fun k hk hn => ?_⟩
  rw [World.heap_setCells_other _ _ _ _ (Nat.lt_of_lt_of_le hk h.size) (by intro e; exact hn (by rw [e])), h.block k hk hn]
theorem C_sets {k : IntKind} {w : World} {g n i : Nat} {xs : List Int} (h : (Kd.int k).C w (some ⟨g, 0, none⟩) n xs) (hn : n ≤ i) (vs : List Value) : (Kd.int k).C (w.setCells g i vs) (some ⟨g, 0, none⟩) n xs := by
  obtain ⟨h1, h2, h3⟩ := h
  refine ⟨h1, h2, fun hp => ?_⟩
  obtain ⟨ad, he, hc⟩ := h3 hp
  refine ⟨ad, he, fun j p hj => ?_⟩
  obtain ⟨cs, hl, hK, hcell⟩ := hc j p hj
  refine ⟨cs, hl, hK, fun t u hu => ?_⟩
  cases he
  have ht : t < cs.length := (List.getElem?_eq_some_iff.1 hu).1
  have hl' : cs.length = 1 := hl
  have hjl : j < xs.length := (List.getElem?_eq_some_iff.1 hj).1
  rw [World.cell?_setCells_out _ _ _ _ _ (fun _ _ => .inl ?_)]
  · exact hcell t u hu
  · rw [add_plain]
    show j * 1 + t < i
    omega
set_option maxHeartbeats 400000 in
theorem cloneInts_any (A : Option Addr) (n c : Nat) (l : List Int) (w : World) (hr : Kd.C (Kd.int .i64) w A n l) (hl : l.length ≤ 1000000) :
    Calls Try.prog 64 #[.slice A n c] w fun e w' => ∃ v, e = .returned v ∧ (Kd.int .i64).R 3 w' w.heap.size (fun _ => True) v l ∧ Below w.heap.size w w' := by
  obtain rfl := hr.1
  have he := fun (w : World) (a : Option Addr) (n : Nat) => Lib.run_eql_slice_nil (P := Try.prog) w 73 3 a n c 0 0 Try.underlying73
  cases A with
  | none =>
    have h0 : l = [] := by
      cases l with
      | nil => rfl
      | cons x r => obtain ⟨ad, e, _⟩ := hr.2.2 (by simp); cases e
    subst h0
    go_enter Try.func64, Try.ntmps64
    go_wp2
    go_ret
    exact ⟨_, rfl, Kd.R_nil _ _ _ _ _, Below.refl _ _⟩
  | some ad =>
    have hown := made0_R (Kd.int .i64) 3 w w.heap.size (.int .i64 0) 0 (fun _ => True) (Nat.le_refl _) (by omega) trivial
    rw [show madeCells (Value.int .i64 0).cells (0 * (Kd.int .i64).sz) = #[] from by simp [madeCells]] at hown
    have hbel : Below w.heap.size w (w.alloc (.cells #[] 3)) := (Below.refl _ _).alloc (Nat.le_refl _) _
    have hr1 := Kd.C_below hr hbel
    have HO := Aside0.mk hown
    have HB := Aside0.mk hbel
    have HR := Aside0.mk hr1
    clear hown hbel hr1
    go_enter Try.func64, Try.ntmps64
    go_wp2_with (at_builtin; refine Kd.R_append_row (w0 := w) (Value.int .i64) 0 w.heap.size rfl (.tmp 5) (.tmp 6) 73 3 (.int .i64 0) 8 rfl Try.underlying73 info3 rfl (by decide) _ [] l (some ad) l.length c (fun _ => True) rfl rfl (fun _ _ => trivial) HO.out HR.out HB.out ?c5 ?c6 ?_)
    case c5 => simp
    case c6 => simp; omega
    intro v1 w1 hown1 hbel1 _ _
    go_wp2
    go_ret
    exact ⟨_, rfl, by exact hown1, hbel1⟩
/-- The first of which it holds, or -1. -/
def FirstAt (l : List Int) (p : Int → Bool) (r : Int) : Prop :=
  (r = -1 ∧ ∀ j, j < l.length → p (l.getD j 0) = false) ∨ ∃ k : Nat, k < l.length ∧ r = k ∧ p (l.getD k 0) = true ∧ ∀ j, j < k → p (l.getD j 0) = false
set_option maxHeartbeats 1000000 in
set_option maxRecDepth 100000 in
theorem indexCut_any (A Ax : Option Addr) (n c nx cx : Nat) (l : List Int) (x : List S82) (port s g : Int) (bp bl : Nat) (w : World) (hr : Kd.C (Kd.int .i64) w A n l) (hx : Kd.C k82 w Ax nx x)
    (p0 : w.cell? ⟨bp, 0, none⟩ = some (.int .u32 s)) (p1 : w.cell? ⟨bp, 1, none⟩ = some (.int .u32 g)) (p2 : w.cell? ⟨bp, 2, none⟩ = some (.int .i64 port)) (l0 : w.cell? ⟨bl, 0, none⟩ = some (.slice Ax nx cx)) :
    Calls Try.prog 62 #[.slice A n c, .func (.func 54) #[] #[.pointer (some ⟨bp, 0, none⟩), .pointer (some ⟨bl, 0, none⟩)]] w fun e w' => ∃ r : Int, e = .returned (.int .i64 r) ∧ FirstAt l (leftOut x port s g) r ∧ Below w.heap.size w w' := by
  have HR := Aside0.mk hr
  have HX := Aside0.mk hx
  have HN := Aside0.mk hr.1
  have hmx : n ≤ 9223372036854775807 := by have := hr.2.1; omega
  clear hr hx
  go_enter Try.func62, Try.ntmps62
  go_wp2
  go_loopg [8] n (fun k i w' => ∃ j : Nat, j + k = n ∧ i = .int .i64 j ∧ Aside0 (∀ t, t < j → leftOut x port s g (l.getD t 0) = false) ∧ Below w.heap.size w w')
  case atStart => exact ⟨0, by omega, rfl, ⟨fun t ht => absurd ht (Nat.not_lt_zero _)⟩, Below.refl _ _⟩
  case round =>
    obtain ⟨j, hj, rfl, HF, hbel⟩ := hrel
    by_cases hlt : j < n
    · obtain ⟨ad, y, rfl, h0, HY⟩ := at_nat (Kd.C_below HR.out hbel) j hlt
      have hcx := Aside0.mk (Kd.C_below HX.out hbel)
      have c0 := pw_cell_below hbel p0
      have c1 := pw_cell_below hbel p1
      have c2 := pw_cell_below hbel p2
      have c3 := pw_cell_below hbel l0
      have hs := hbel.size
      cases hbt : leftOut x port s g y with
      | true =>
        have HB := Aside0.mk hbt
        clear hbt
        go_wp2_with (go_at_call 54; refine (fwdfn_any Ax nx cx x port s g y bp bl _ hcx.out c0 c1 c2 c3).mono ?_; rintro e w2 ⟨rfl, hb2⟩; rw [HB.out])
        go_ret
        exact ⟨(j : Int), rfl, .inr ⟨j, by rw [HN.out]; exact hlt, rfl, by rw [← HY.out]; exact HB.out, HF.out⟩, below_then hbel hs hb2⟩
      | false =>
        have HB := Aside0.mk hbt
        clear hbt
        go_wp2_with (go_at_call 54; refine (fwdfn_any Ax nx cx x port s g y bp bl _ hcx.out c0 c1 c2 c3).mono ?_; rintro e w2 ⟨rfl, hb2⟩; rw [HB.out])
        go_roundg (gk - 1)
        case measure => omega
        case rel =>
          refine ⟨j + 1, by omega, by go_num, ⟨fun t ht => ?_⟩, below_then hbel hs hb2⟩
          by_cases e : t = j
          · rw [e, ← HY.out]; exact HB.out
          · exact HF.out t (by omega)
    · obtain rfl : j = n := by omega
      go_wp2
      go_ret
      exact ⟨-1, rfl, .inl ⟨rfl, fun t ht => HF.out t (by rw [HN.out] at ht; exact ht)⟩, hbel⟩
/-- j places have been looked at; what is kept of them, i of them, lies at the head. -/
structure CutInv (l : List Int) (p : Int → Bool) (i j : Nat) (xs : List Int) : Prop where
  lt : i < j
  le : j ≤ l.length
  len : xs.length = l.length
  low : xs.take i = (l.take j).filter (fun q => !p q)
  high : ∀ t, j ≤ t → xs[t]? = l[t]?
theorem CutInv.start {l : List Int} {p : Int → Bool} {k : Nat} (hk : k < l.length) (ht : p (l.getD k 0) = true) (h : ∀ j, j < k → p (l.getD j 0) = false) : CutInv l p k (k + 1) l where
  lt := by omega
  le := hk
  len := rfl
  low := by
    have h1 : (l.take k).filter (fun q => !p q) = l.take k := by
      rw [List.filter_eq_self]
      intro a ha
      obtain ⟨t, ht, hta⟩ := List.getElem_of_mem ha
      rw [List.length_take] at ht
      have := h t (by omega)
      rw [List.getD_eq_getElem?_getD, List.getElem?_eq_getElem (by omega)] at this
      rw [List.getElem_take] at hta
      rw [← hta]
      simpa using this
    rw [List.take_succ_eq_append_getElem hk, List.filter_append, h1]
    rw [List.getD_eq_getElem?_getD, List.getElem?_eq_getElem hk] at ht
    have ht' : p l[k] = true := ht
    simp [ht']
  high := fun _ _ => rfl
theorem CutInv.keep {l xs : List Int} {p : Int → Bool} {i j : Nat} (h : CutInv l p i j xs) (hj : j < l.length) (hp : p (xs.getD j 0) = false) : CutInv l p (i + 1) (j + 1) (xs.set i (xs.getD j 0)) where
  lt := by have := h.lt; omega
  le := hj
  len := by rw [List.length_set, h.len]
  low := by
    have e1 : xs.getD j 0 = l[j] := by rw [List.getD_eq_getElem?_getD, h.high j (Nat.le_refl _), List.getElem?_eq_getElem hj]; rfl
    rw [e1] at hp ⊢
    have hi : i < (xs.set i l[j]).length := by rw [List.length_set, h.len]; have := h.lt; omega
    rw [List.take_succ_eq_append_getElem hi, List.take_succ_eq_append_getElem hj, List.filter_append, ← h.low, List.take_set_of_le (Nat.le_refl _)]
    simp [hp]
  high := fun t ht => by rw [List.getElem?_set_ne (by have := h.lt; omega)]; exact h.high t (by omega)
theorem CutInv.skip {l xs : List Int} {p : Int → Bool} {i j : Nat} (h : CutInv l p i j xs) (hj : j < l.length) (hp : p (xs.getD j 0) = true) : CutInv l p i (j + 1) xs where
  lt := by have := h.lt; omega
  le := hj
  len := h.len
  low := by
    have e1 : xs.getD j 0 = l[j] := by rw [List.getD_eq_getElem?_getD, h.high j (Nat.le_refl _), List.getElem?_eq_getElem hj]; rfl
    rw [e1] at hp
    rw [List.take_succ_eq_append_getElem hj, List.filter_append, ← h.low]
    simp [hp]
  high := fun t ht => h.high t (by omega)
theorem CutInv.done {l xs : List Int} {p : Int → Bool} {i j : Nat} (h : CutInv l p i j xs) (hj : j = l.length) : xs.take i = l.filter (fun q => !p q) := by
  rw [h.low, hj, List.take_length]
set_option maxHeartbeats 4000000 in
set_option maxRecDepth 100000 in
theorem deleteCut_any (Ax : Option Addr) (nx cx : Nat) (v : Value) (ok : Nat → Prop) (l : List Int) (x : List S82) (port s g : Int) (bp bl : Nat) (w0 w : World) (hx : Kd.C k82 w0 Ax nx x)
    (p0 : w0.cell? ⟨bp, 0, none⟩ = some (.int .u32 s)) (p1 : w0.cell? ⟨bp, 1, none⟩ = some (.int .u32 g)) (p2 : w0.cell? ⟨bp, 2, none⟩ = some (.int .i64 port)) (l0 : w0.cell? ⟨bl, 0, none⟩ = some (.slice Ax nx cx))
    (hb : Below w0.heap.size w0 w) (hR : (Kd.int .i64).R 3 w w0.heap.size ok v l) :
    Calls Try.prog 53 #[v, .func (.func 54) #[] #[.pointer (some ⟨bp, 0, none⟩), .pointer (some ⟨bl, 0, none⟩)]] w fun e w' => ∃ A n c, e = .returned (.slice A n c) ∧ n ≤ c ∧ Kd.C (Kd.int .i64) w' A n (l.filter (fun q => !leftOut x port s g q)) ∧ Below w0.heap.size w0 w' ∧ w.grownBy w' v.ownBlock ∧ ∀ ad, A = some ad → w0.heap.size ≤ ad.block := by
  obtain ⟨A, c, rfl, hlc, hC⟩ := Kd.R_reads hR
  have hmx : l.length ≤ 9223372036854775807 := by have := hC.2.1; omega
  have HX := Aside0.mk hx
  have HB0 := Aside0.mk hb
  have HR := Aside0.mk hR
  have hIF := indexCut_any A Ax l.length c nx cx l x port s g bp bl w hC (Kd.C_below hx hb) (pw_cell_below hb p0) (pw_cell_below hb p1) (pw_cell_below hb p2) (pw_cell_below hb l0)
  have HI := Aside0.mk hIF
  have HC := Aside0.mk hC
  clear hx hb hR hIF hC
  go_enter Try.func53, Try.ntmps53
  go_wp2_with fail
  refine HI.out.mono ?_
  rintro e w1 ⟨r, rfl, hf, hb1⟩
  clear HI
  rcases hf with ⟨rfl, hall⟩ | ⟨k0, hk0, rfl, ht, hall⟩
  · have HA := Aside0.mk hall
    have HB1 := Aside0.mk hb1
    clear hall hb1
    go_wp2
    go_ret
    refine ⟨A, l.length, c, rfl, hlc, ?_, below_then HB0.out HB0.out.size HB1.out, grown_of_below _ HB1.out, fun ad e => Kd.R_base HR.out ad.block (by subst e; rfl)⟩
    rw [List.filter_eq_self.2]
    · exact Kd.C_below HC.out HB1.out
    · intro a ha
      obtain ⟨t, htl, hta⟩ := List.getElem_of_mem ha
      have := HA.out t htl
      rw [List.getD_eq_getElem?_getD, List.getElem?_eq_getElem htl] at this
      rw [← hta]
      simpa using this
  · obtain ⟨b, cap, he, hb2, _⟩ := Kd.R_form HR.out (by omega)
    injection he with he1 he2 he3
    subst he1
    subst he3
    have hR1 := Kd.R_below HR.out hb1
    have hI0 := CutInv.start hk0 ht hall
    have hne : ((k0 : Int) == -1) = false := beq_eq_false_iff_ne.2 (by omega)
    have HG1 := Aside0.mk (grown_of_below (some b) hb1)
    have HB1 := Aside0.mk (below_then HB0.out HB0.out.size hb1)
    have HR1 := Aside0.mk hR1
    have HI0 := Aside0.mk hI0
    have HL := Aside0.mk hb2
    clear hb1 hR1 hI0 ht hall HR HC HB0 hb2
    go_wp2
    go_loopg [5, 6] l.length (fun k vi vj w' => ∃ (i j : Nat) (xs : List Int), j ≤ l.length ∧ l.length - j ≤ k ∧ vi = .int .i64 i ∧ vj = .int .i64 j ∧ Aside0 (CutInv l (leftOut x port s g) i j xs) ∧ Aside0 ((Kd.int .i64).R 3 w' w0.heap.size ok (.slice (some ⟨b, 0, none⟩) l.length c) xs) ∧ Aside0 (Below w0.heap.size w0 w') ∧ Aside0 (w.grownBy w' (some b)))
    case atStart => exact ⟨k0, k0 + 1, l, by omega, by omega, rfl, by go_num, HI0, HR1, HB1, HG1⟩
    case round =>
      obtain ⟨i, j, xs, hjl, hgg, rfl, rfl, HI, HR, HB, HG⟩ := hrel
      have hij := HI.out.lt
      have hxl := HI.out.len
      have hcell := fun t => R_nat HR.out hxl t
      by_cases hlt : j < l.length
      · have hltz : (j : Int) < (l.length : Int) := by omega
        obtain ⟨q0, f0⟩ := hcell j hlt
        obtain ⟨y, hy⟩ : ∃ y, y = xs.getD j 0 := ⟨_, rfl⟩
        rw [← hy] at q0
        have HY := Aside0.mk hy
        clear hy hcell
        have hcx := Aside0.mk (Kd.C_below HX.out HB.out)
        have c0 := pw_cell_below HB.out p0
        have c1 := pw_cell_below HB.out p1
        have c2 := pw_cell_below HB.out p2
        have c3 := pw_cell_below HB.out l0
        clear p0 p1 p2 l0
        cases hbt : leftOut x port s g y with
        | true =>
          have HT := Aside0.mk hbt
          clear hbt
          go_wp2_with (go_at_call 54; refine (fwdfn_any Ax nx cx x port s g y bp bl _ hcx.out c0 c1 c2 c3).mono ?_; rintro e w2 ⟨rfl, hb2⟩; rw [HT.out])
          go_roundg (l.length - (j + 1))
          case measure => omega
          case rel => exact ⟨i, j + 1, xs, by omega, Nat.le_refl _, rfl, by go_num, ⟨HI.out.skip hlt (by rw [← HY.out]; exact HT.out)⟩, ⟨Kd.R_below HR.out hb2⟩, ⟨below_then HB.out HB.out.size hb2⟩, ⟨grown_below HG.out hb2⟩⟩
        | false =>
          have HT := Aside0.mk hbt
          clear hbt
          go_wp2_with (go_at_call 54; refine (fwdfn_any Ax nx cx x port s g y bp bl _ hcx.out c0 c1 c2 c3).mono ?_; rintro e w2 ⟨rfl, hb2⟩; rw [HT.out]; have HB2 := Aside0.mk hb2; obtain ⟨s0, s1⟩ := R_nat (Kd.R_below HR.out hb2) hxl i (by omega); clear hb2)
          go_roundg (l.length - (j + 1))
          case measure => omega
          case rel =>
            refine ⟨i + 1, j + 1, xs.set i y, by omega, Nat.le_refl _, by go_num, by go_num, ⟨by rw [HY.out]; exact HI.out.keep hlt (by rw [← HY.out]; exact HT.out)⟩, ⟨R_putn (Kd.R_below HR.out HB2.out) hxl i y⟩, ⟨?_⟩, ⟨grown_set (grown_below HG.out HB2.out) i _⟩⟩
            exact (below_then HB.out HB.out.size HB2.out).setCell HL.out _
      · obtain rfl : j = l.length := by omega
        have hin : i < l.length := by omega
        have hnlt : ¬ (l.length : Int) < (l.length : Int) := by omega
        have hcl : ∀ ty, (Builtin.clear_ #[73] ty #[.slice (some ⟨b, i, none⟩) (l.length - i) (c - i)]).run Try.prog wr = .ok (.tuple #[]) (wr.setCells b i (List.replicate (l.length - i) (.int .i64 0))) :=
          fun ty => Lib.run_clear_slice wr 73 3 ty (.int .i64 0) Try.underlying73 Try.zeroValue3 rfl rfl b i _ _ (by omega) (fun t ht => by rw [(hcell (i + t) (by omega)).1]; rfl) (fun t ht => (hcell (i + t) (by omega)).2)
        have hs1 : ∀ W : World, (Instr.slice 73 (.slice (some ⟨b, 0, none⟩) l.length c) (some (.int .i64 i)) none none).run Try.prog W = .ok (.slice (some ⟨b, i, none⟩) (l.length - i) (c - i)) W := by
          intro W
          obtain ⟨q, hq, _, hsz, _⟩ := info_parts info3
          have := cut_from (P := Try.prog) 73 3 .i64 Try.underlying73 hq 1 hsz (some ⟨b, 0, none⟩) l.length c i (by omega) (by omega) W
          rw [this]
          simp [add_plain]
          omega
        have hs2 := cut_to (P := Try.prog) 73 3 .i64 Try.underlying73 info3 (some ⟨b, 0, none⟩) l.length c (i : Int) i rfl (by omega)
        clear hcell
        go_wp2
        go_ret
        refine ⟨_, i, c, rfl, by omega, ?_, ?_, grown_sets HG.out i _, fun ad e => by cases e; exact HL.out⟩
        · rw [← HI.out.done rfl]
          exact C_sets (C_take' (R_C HR.out).2 (by omega)) (Nat.le_refl _) _
        · exact below_sets b HL.out _ _ HB.out
end Go.Proofs.Ytjcihhkeehjgdaa
