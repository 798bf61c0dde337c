/- Words of this seat's own walks: slices of bytes that are read, and that are made. -/
import Derived.Test.YtbgbplbkombfjaaDoorProg
import Derived.Test.YtbgbplbkombfjaaDoorWWords
import Derived.WalkLawsBesides
namespace Go.Proofs.YtbgbplbkombfjaaDoor
open Go.RowKit Go.Proofs.YtbgbplbkombfjaaDoorW.PrintWords
set_option linter.unusedVariables false
set_option linter.unusedSimpArgs false
theorem word_int {k : IntKind} {a b : Int} (h : a = b) : Value.int k a = Value.int k b := by rw [h]
theorem ret_int {k : IntKind} {a b : Int} (h : a = b) : Ending.returned (.int k a) = .returned (.int k b) := by rw [h]
theorem ret_bool {a b : Bool} (h : a = b) : Ending.returned (.bool a) = .returned (.bool b) := by rw [h]
theorem at_nat {k : IntKind} {w : World} {A : Option Addr} {n : Nat} {xs : List Int} (h : (Kd.int k).C w A n xs) (j : Nat) (hj : j < n) : ∃ ad x, A = some ad ∧ w.cell? (ad.add j) = some (.int k x) ∧ Aside0 (x = xs.getD j 0) := by
  obtain ⟨ad, e, hc⟩ := Kd.at_int h (j : Int) (by omega) (by omega)
  exact ⟨ad, _, e, by simpa [rd] using hc, ⟨by simp⟩⟩
/-- make([]T, 0, c), as the walk's simp takes it. -/
theorem run_make0 {P : Program} (t e : TypeId) (z : Value) (size bytes : Nat) (ht : P.underlying t = some (.slice e)) (hinfo : (P.info? e).map (fun i => (i.zero, i.size, i.bytes)) = some (some z, size, bytes)) (c : Nat) (hb : bytes * c ≤ 281474976710656) (hc : c ≤ 140737488355328) :
    ∀ W : World, (Instr.makeSlice t (.int .i64 0) (.int .i64 (c : Int))).run P W = .ok (.slice (some ⟨W.heap.size, 0, none⟩) 0 c) (W.alloc (.cells (madeCells z.cells (c * size)) e)) := by
  intro W
  obtain ⟨i, hi, hz0, hz1, hz2⟩ := info_parts hinfo
  have hb' : (i.bytes : Int) * (c : Int) ≤ 281474976710656 := by
    rw [hz2]
    have h : ((bytes * c : Nat) : Int) ≤ 281474976710656 := by omega
    rwa [Int.natCast_mul] at h
  have hr := run_make (P := P) W t e i z ht hi hz0 .i64 .i64 0 c (Int.le_refl _) (by omega) hb' (by omega)
  simp only [Int.toNat_zero, Int.toNat_natCast, hz1] at hr
  exact hr
theorem made0_R {α : Type} (d : Kd α) (e : Nat) (W : World) (base : Nat) (z : Value) (c : Nat) (ok : Nat → Prop) (hbase : base ≤ W.heap.size) (hc : c ≤ 140737488355328) (hok : ok W.heap.size) :
    d.R e (W.alloc (.cells (madeCells z.cells (c * d.sz)) e)) base ok (.slice (some ⟨W.heap.size, 0, none⟩) 0 c) [] := by
  refine ⟨fun k hk => ?_, [], ?_, Reps.none _ _⟩
  · simp [Value.ownBlock] at hk
    subst hk
    exact hok
  · exact World.ownsRow_made W _ c hbase (by simp [maxLen]; omega) (size_madeCells _ _)
theorem R_form {e base : Nat} {ok : Nat → Prop} {W : World} {v : Value} {xs : List Int} {k : IntKind} (h : (Kd.int k).R e W base ok v xs) (h0 : 0 < xs.length) : ∃ g cap, v = .slice (some ⟨g, 0, none⟩) xs.length cap ∧ base ≤ g := by
  obtain ⟨g, cap, rfl, hg, _⟩ := (Kd.own_of_R h).form h0
  exact ⟨g, cap, rfl, hg⟩
theorem R_nat {e base g cap n : Nat} {ok : Nat → Prop} {W : World} {xs : List Int} {k : IntKind} (h : (Kd.int k).R e W base ok (.slice (some ⟨g, 0, none⟩) n cap) xs) (hn : xs.length = n) (i : Nat) (hi : i < n) : W.cell? ⟨g, i, none⟩ = some (.int k (xs.getD i 0)) ∧ W.frozen? ⟨g, i, none⟩ = false := by
  subst hn
  have := Kd.R_cell (0 : Int) h (i : Int) (by omega) (by omega)
  simpa [rdOf] using this
theorem R_putn {e base g cap n : Nat} {ok : Nat → Prop} {W : World} {xs : List Int} {k : IntKind} (h : (Kd.int k).R e W base ok (.slice (some ⟨g, 0, none⟩) n cap) xs) (hn : xs.length = n) (i : Nat) (x : Int) : (Kd.int k).R e (W.setCell ⟨g, i, none⟩ (.int k x)) base ok (.slice (some ⟨g, 0, none⟩) n cap) (xs.set i x) := by
  subst hn
  have := (Kd.R_put h (i : Int) x).1
  rwa [Int.toNat_natCast] at this
theorem R_C {α : Type} {d : Kd α} {e base n c : Nat} {ok : Nat → Prop} {W : World} {A : Option Addr} {xs : List α} (h : d.R e W base ok (.slice A n c) xs) : n ≤ c ∧ d.C W A n xs := by
  obtain ⟨A', c', he, hc, hC⟩ := Kd.R_reads h
  injection he with h1 h2 h3
  subst h1 h2 h3
  exact ⟨hc, hC⟩
/-- v[lo:], as the walk's simp takes it. -/
theorem cut_from {P : Program} (t e : TypeId) (kl : IntKind) {i : TypeInfo} (ht : P.underlying t = some (.slice e)) (hi : P.info? e = some i) (size : Nat) (hsz : i.size = size) (A : Option Addr) (n c : Nat) (lo : Int) (h0 : 0 ≤ lo) (h1 : lo ≤ n) :
    ∀ W : World, (Instr.slice t (.slice A n c) (some (.int kl lo)) none none).run P W = .ok (.slice (if c = lo.toNat then A else A.map (·.add (lo.toNat * size))) (n - lo.toNat) (c - lo.toNat)) W := by
  intro W
  have hel : P.elem t = e := by simp [Program.elem, ht]
  have hu : P.underlying t = some (.slice (P.elem t)) := by rw [hel]; exact ht
  rw [run_slice_l W t A n c hu kl lo h0 h1, hel]
  simp [sizeOf, typeInfo, hi, hsz, sliced, Result.andThen]
theorem C_take' {α : Type} {d : Kd α} {w : World} {A : Option Addr} {n m : Nat} {xs : List α} (h : d.C w A n xs) (hm : m ≤ n) : d.C w A m (xs.take m) := by
  obtain rfl := h.1
  have := Kd.C_take h hm
  rwa [show (xs.take m).length = m by rw [List.length_take]; omega] at this
theorem C_drop' {α : Type} {d : Kd α} {w : World} {A : Option Addr} {n m c : Nat} {xs : List α} (h : d.C w A n xs) (hm : m ≤ n) (hc : n ≤ c) : d.C w (if c = m then A else A.map (·.add (m * d.sz))) (n - m) (xs.drop m) := by
  obtain rfl := h.1
  have := Kd.C_drop h hm hc
  rwa [List.length_drop] at this
/-- A block of numbers that a literal has just laid. -/
theorem lit_C (k : IntKind) (W : World) (e : TypeId) (xs : List Int) (hm : xs.length ≤ 1000000) : (Kd.int k).C (W.alloc (.cells (nums k xs).toArray e)) (some ⟨W.heap.size, 0, none⟩) xs.length xs := by
  have h := own_lit W W.heap.size e k xs (Nat.le_refl _) (by omega)
  have hR : (Kd.int k).R e (W.alloc (.cells (nums k xs).toArray e)) W.heap.size (fun _ => True) (.slice (some ⟨W.heap.size, 0, none⟩) xs.length xs.length) xs := Kd.R_of_own h (fun _ _ => trivial)
  exact (R_C hR).2
/-- append(row, rows...) as a step of a region that draws its order; whole numbers. -/
theorem app_row_step {P : Program} {ops : Array Oper} {o : Oper} {a : Act} {Q : Exit → Act → World → Prop} {Kc : Act → World → Prop} {k : IntKind} {w0 W : World} (base : Nat) (hw : Region.wanted o (yielded ops a.tmps) = true) (s x : Operand) (t e : TypeId) (bytes : Nat)
    (ho : o.op = .call { callee := .builtin .append, args := #[s, x], argTypes := #[t, t] })
    (ht : P.underlying t = some (.slice e)) (hinfo : (P.info? e).map (fun i => (i.zero, i.size, i.bytes)) = some (some (.int k 0), 1, bytes)) (hb0 : 0 < bytes)
    (v : Value) (xs ys : List Int) (A : Option Addr) (m c : Nat) (hs : a.eval s = v) (hx : a.eval x = .slice A m c)
    (HO : (Kd.int k).R e W base (fun _ => True) v xs) (HR : (Kd.int k).C W A m ys)
    (HB : Below base w0 W) (hbase : base ≤ W.heap.size) (hl : (xs.length + m) * bytes ≤ 140737488355328)
    (h : ∀ v1 w1, (Kd.int k).R e w1 base (fun _ => True) v1 (xs ++ ys) → Below base w0 w1 → Kc (a.put o.dst v1) w1) :
    if Region.wanted o (yielded ops a.tmps) = true then Oper.wp P o a W Kc Q else Kc (a.put o.dst undef) W :=
  Kd.R_append_rows_step (Kd.int k) (w0 := w0) base hw s x t e (.int k 0) bytes ho ht hinfo rfl Nat.one_pos hb0 v xs ys A m c (fun _ => True) (fun _ => False) hs hx HO HR (fun _ _ h => h) (fun _ h => h.elim) (fun _ _ => trivial) HB hbase hl (fun v1 w1 h1 h2 _ _ => h v1 w1 h1 h2)
/-- v[lo:] of what is read: some slice that reads as the rest. -/
theorem drop_ex {P : Program} {α : Type} {d : Kd α} (t e : TypeId) (kl : IntKind) {z : Value} {bytes : Nat} (ht : P.underlying t = some (.slice e)) (hinfo : (P.info? e).map (fun i => (i.zero, i.size, i.bytes)) = some (some z, d.sz, bytes)) {w : World} {A : Option Addr} {n c : Nat} {xs : List α} (h : d.C w A n xs) (hc : n ≤ c) (lo : Int) (h0 : 0 ≤ lo) (h1 : lo ≤ n) :
    ∃ A2 n2 c2, n2 ≤ c2 ∧ (∀ W : World, (Instr.slice t (.slice A n c) (some (.int kl lo)) none none).run P W = .ok (.slice A2 n2 c2) W) ∧ d.C w A2 n2 (xs.drop lo.toNat) := by
  obtain ⟨i, hi, _, hsz, _⟩ := info_parts hinfo
  exact ⟨_, _, _, by omega, cut_from t e kl ht hi d.sz hsz A n c lo h0 h1, C_drop' h (by omega) hc⟩
/-- v[:hi]. -/
theorem cut_to {P : Program} (t e : TypeId) (kh : IntKind) {z : Value} {size bytes : Nat} (ht : P.underlying t = some (.slice e)) (hinfo : (P.info? e).map (fun i => (i.zero, i.size, i.bytes)) = some (some z, size, bytes)) (A : Option Addr) (n c : Nat) (hi' : Int) (m : Nat) (hm : hi' = (m : Int)) (h2 : m ≤ c) :
    ∀ W : World, (Instr.slice t (.slice A n c) none (some (.int kh hi')) none).run P W = .ok (.slice A m c) W := by
  intro W
  subst hm
  obtain ⟨i, hi, _, hsz, _⟩ := info_parts hinfo
  have hel : P.elem t = e := by simp [Program.elem, ht]
  have hu : P.underlying t = some (.slice (P.elem t)) := by rw [hel]; exact ht
  have ha : (A.map fun x => x.add 0) = A := by cases A <;> simp [Addr.add]
  rw [run_slice_h W t A n c hu kh m (by omega) (by omega), hel]
  simp [sizeOf, typeInfo, hi, hsz, sliced, Result.andThen, ha]
/-- The same, guarded or not, in a plain region. -/
theorem app_row_list {P : Program} {ops : Array Oper} {rest : List Oper} {o : Oper} {a : Act} {Q : Exit → Act → World → Prop} {k : IntKind} {w0 W : World} (base : Nat) (hw : Region.wanted o (yielded ops a.tmps) = true) (s x : Operand) (t e : TypeId) (bytes : Nat)
    (ho : o.op = .call { callee := .builtin .append, args := #[s, x], argTypes := #[t, t] })
    (ht : P.underlying t = some (.slice e)) (hinfo : (P.info? e).map (fun i => (i.zero, i.size, i.bytes)) = some (some (.int k 0), 1, bytes)) (hb0 : 0 < bytes)
    (v : Value) (xs ys : List Int) (A : Option Addr) (m c : Nat) (hs : a.eval s = v) (hx : a.eval x = .slice A m c)
    (HO : (Kd.int k).R e W base (fun _ => True) v xs) (HR : (Kd.int k).C W A m ys)
    (HB : Below base w0 W) (hbase : base ≤ W.heap.size) (hl : (xs.length + m) * bytes ≤ 140737488355328)
    (h : ∀ v1 w1, (Kd.int k).R e w1 base (fun _ => True) v1 (xs ++ ys) → Below base w0 w1 → wpList P ops Q rest (a.put o.dst v1) w1) :
    wpList P ops Q (o :: rest) a W :=
  wpList_step fun K hK => app_row_step (w0 := w0) base hw s x t e bytes ho ht hinfo hb0 v xs ys A m c hs hx HO HR HB hbase hl (fun v1 w1 h1 h2 => hK _ _ (h v1 w1 h1 h2))
end Go.Proofs.YtbgbplbkombfjaaDoor
