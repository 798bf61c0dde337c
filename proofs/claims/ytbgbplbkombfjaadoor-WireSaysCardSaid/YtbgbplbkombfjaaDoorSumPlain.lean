/- The plain arithmetic of chapter 2's sums: no program stands here. -/
import Derived.Below
namespace Go.Proofs.YtbgbplbkombfjaaDoor.SumPlain
set_option linter.unusedSimpArgs false
/-- What bytes weigh: those at even places 256 times. k: the first one's place. -/
def rawAt : Nat → List Int → Int
  | _, [] => 0
  | k, x :: r => (if k % 2 = 0 then 256 * x else x) + rawAt (k + 1) r
def raw (l : List Int) : Int := rawAt 0 l
/-- The sum with its carries folded in. -/
def fin (n : Int) : Int := if n = 0 then 0 else (n - 1) % 65535 + 1
def ofL (l : List Int) : Int := 65535 - fin (raw l)
def Byt (l : List Int) : Prop := ∀ x ∈ l, 0 ≤ x ∧ x ≤ 255
theorem rawAt_append (a b : List Int) : ∀ k, rawAt k (a ++ b) = rawAt k a + rawAt (k + a.length) b := by
  induction a with
  | nil => intro k; simp [rawAt]
  | cons x r ih =>
    intro k
    have h := ih (k + 1)
    simp only [List.cons_append, rawAt, List.length_cons, h]
    rw [show k + 1 + r.length = k + (r.length + 1) by omega]
    omega
theorem rawAt_two (k : Nat) (l : List Int) : rawAt (k + 2) l = rawAt k l := by
  induction l generalizing k with
  | nil => rfl
  | cons x r ih =>
    have h := ih (k + 1)
    simp only [rawAt]
    rw [show k + 2 + 1 = k + 1 + 2 by omega, h, show (k + 2) % 2 = k % 2 by omega]
theorem rawAt_even (l : List Int) : ∀ m, rawAt (2 * m) l = raw l
  | 0 => rfl
  | m + 1 => by rw [show 2 * (m + 1) = 2 * m + 2 by omega, rawAt_two, rawAt_even l m]
theorem rawAt_par (k : Nat) (l : List Int) (h : k % 2 = 0) : rawAt k l = raw l := by
  have := rawAt_even l (k / 2)
  rwa [show 2 * (k / 2) = k by omega] at this
theorem raw_nonneg (l : List Int) (h : Byt l) : ∀ k, 0 ≤ rawAt k l ∧ rawAt k l ≤ 65280 * l.length := by
  induction l with
  | nil => intro k; simp [rawAt]
  | cons x r ih =>
    intro k
    have h1 := h x List.mem_cons_self
    have h2 := ih (fun y hy => h y (List.mem_cons_of_mem _ hy)) (k + 1)
    simp only [rawAt, List.length_cons]
    split <;> omega
theorem raw_bd (l : List Int) (h : Byt l) : 0 ≤ raw l ∧ raw l ≤ 65280 * l.length := raw_nonneg l h 0
theorem raw_snoc (l : List Int) (x : Int) : raw (l ++ [x]) = raw l + (if l.length % 2 = 0 then 256 * x else x) := by
  unfold raw
  rw [rawAt_append]
  simp [rawAt]
theorem byt_take {l : List Int} (h : Byt l) (n : Nat) : Byt (l.take n) := fun x hx => h x (List.mem_of_mem_take hx)
theorem byt_drop {l : List Int} (h : Byt l) (n : Nat) : Byt (l.drop n) := fun x hx => h x (List.mem_of_mem_drop hx)
theorem byt_append {a b : List Int} (ha : Byt a) (hb : Byt b) : Byt (a ++ b) := fun x hx => by
  rcases List.mem_append.1 hx with h | h
  · exact ha x h
  · exact hb x h
theorem byt_getD {l : List Int} (h : Byt l) (j : Nat) : 0 ≤ l.getD j 0 ∧ l.getD j 0 ≤ 255 := by
  rw [List.getD_eq_getElem?_getD]
  cases e : l[j]? with
  | none => simp
  | some x => exact h x (List.mem_of_getElem? e)
theorem take_snoc (l : List Int) (j : Nat) (h : j < l.length) : l.take (j + 1) = l.take j ++ [l.getD j 0] := by
  rw [List.take_succ_eq_append_getElem h, List.getD_eq_getElem?_getD, List.getElem?_eq_getElem h]; rfl
theorem raw_take_succ (l : List Int) (j : Nat) (h : j < l.length) : raw (l.take (j + 1)) = raw (l.take j) + (if j % 2 = 0 then 256 * l.getD j 0 else l.getD j 0) := by
  rw [take_snoc l j h, raw_snoc, List.length_take, Nat.min_eq_left (by omega)]
theorem fin_bd (n : Int) : 0 ≤ fin n ∧ fin n ≤ 65535 := by unfold fin; split <;> omega
theorem fin_small (n : Int) (h0 : 0 ≤ n) (h : n ≤ 65535) : fin n = n := by unfold fin; split <;> omega
theorem fin_fold (n : Int) (h0 : 0 ≤ n) : fin (n / 65536 + n % 65536) = fin n := by unfold fin; split <;> split <;> omega
/-- Two that weigh alike but for multiples, both above 0, fold alike. -/
theorem fin_add (n k : Int) (h0 : 0 < n) (h1 : 0 < n + 65535 * k) : fin (n + 65535 * k) = fin n := by unfold fin; rw [if_neg (by omega), if_neg (by omega)]; omega
theorem ofL_bd (l : List Int) : 0 ≤ ofL l ∧ ofL l ≤ 65535 := by unfold ofL; have := fin_bd (raw l); omega
theorem ofL_zero (l : List Int) : ofL l = 0 ↔ raw l % 65535 = 0 ∧ raw l ≠ 0 := by unfold ofL fin; split <;> omega
/-- Bytes with their sum at a place. -/
def zeroL (l : List Int) (a : Nat) : List Int := (l.set a 0).set (a + 1) 0
def putL (l : List Int) (at_ : Int) : List Int :=
  if at_ < 0 ∨ at_ % 2 ≠ 0 ∨ at_ > (l.length : Int) - 2 then l
  else ((zeroL l at_.toNat).set at_.toNat (ofL (zeroL l at_.toNat) / 256)).set (at_.toNat + 1) (ofL (zeroL l at_.toNat) % 256)
theorem putL_good (l : List Int) (a : Nat) (h : a % 2 = 0) (ha : a + 2 ≤ l.length) : putL l (a : Int) = ((zeroL l a).set a (ofL (zeroL l a) / 256 % 256)).set (a + 1) (ofL (zeroL l a) % 256) := by
  unfold putL
  rw [if_neg (by omega), Int.toNat_natCast]
  have := ofL_bd (zeroL l a)
  rw [Int.emod_eq_of_lt (by omega) (by omega : ofL (zeroL l a) / 256 < 256)]
theorem putL_bad (l : List Int) (a : Int) (h : a < 0 ∨ a % 2 ≠ 0 ∨ a > (l.length : Int) - 2) : putL l a = l := by unfold putL; rw [if_pos h]
theorem byt_set {l : List Int} (h : Byt l) (i : Nat) (x : Int) (hx : 0 ≤ x ∧ x ≤ 255) : Byt (l.set i x) := fun y hy => by
  rcases List.mem_or_eq_of_mem_set hy with h1 | h1
  · exact h y h1
  · rw [h1]; exact hx
theorem zeroL_byt {l : List Int} (h : Byt l) (a : Nat) : Byt (zeroL l a) := byt_set (byt_set h _ _ (by omega)) _ _ (by omega)
theorem zeroL_length (l : List Int) (a : Nat) : (zeroL l a).length = l.length := by simp [zeroL]
theorem putL_length (l : List Int) (a : Int) : (putL l a).length = l.length := by unfold putL; split <;> simp [zeroL]
theorem putL_byt {l : List Int} (h : Byt l) (a : Int) : Byt (putL l a) := by
  unfold putL
  split
  · exact h
  · have := ofL_bd (zeroL l a.toNat)
    exact byt_set (byt_set (zeroL_byt h _) _ _ (by omega)) _ _ (by omega)
theorem raw_append (a b : List Int) (h : a.length % 2 = 0) : raw (a ++ b) = raw a + raw b := by
  unfold raw
  rw [rawAt_append, show 0 + a.length = a.length by omega, rawAt_par _ _ h]
  rfl
theorem ofL_turn (l : List Int) (k : Nat) (hl : l.length % 2 = 0) (hk : k % 2 = 0) (hkl : k ≤ l.length) : ofL (l.drop k ++ l.take k) = ofL l := by
  have h1 : raw (l.drop k ++ l.take k) = raw l := by
    rw [raw_append _ _ (by rw [List.length_drop]; omega)]
    conv => rhs; rw [← List.take_append_drop k l]
    rw [raw_append _ _ (by rw [List.length_take]; omega)]
    omega
  unfold ofL
  rw [h1]
theorem ofL_zeros (l : List Int) (hl : l.length % 2 = 0) : ofL (l ++ [0, 0]) = ofL l := by
  unfold ofL
  rw [raw_append _ _ hl, show raw [0, 0] = 0 from by decide, Int.add_zero]
theorem ofL_zero_behind (l : List Int) : ofL (l ++ [0]) = ofL l := by
  unfold ofL
  rw [raw_snoc]
  simp
theorem rawAt_set (l : List Int) : ∀ (k j : Nat) (v : Int), j < l.length → rawAt k (l.set j v) = rawAt k l + (if (k + j) % 2 = 0 then 256 * (v - l.getD j 0) else v - l.getD j 0) := by
  induction l with
  | nil => intro k j v h; simp at h
  | cons x r ih =>
    intro k j v h
    cases j with
    | zero =>
      simp only [List.set_cons_zero, rawAt, List.getD_cons_zero, Nat.add_zero]
      split <;> omega
    | succ j =>
      have := ih (k + 1) j v (by simpa using h)
      simp only [List.set_cons_succ, rawAt, List.getD_cons_succ, this]
      rw [show k + 1 + j = k + (j + 1) by omega]
      omega
theorem raw_set (l : List Int) (j : Nat) (v : Int) (h : j < l.length) : raw (l.set j v) = raw l + (if j % 2 = 0 then 256 * (v - l.getD j 0) else v - l.getD j 0) := by
  have := rawAt_set l 0 j v h
  rwa [Nat.zero_add] at this
theorem zeroL_at (l : List Int) (a : Nat) (h : a + 2 ≤ l.length) : (zeroL l a).getD a 0 = 0 ∧ (zeroL l a).getD (a + 1) 0 = 0 := by
  unfold zeroL
  constructor
  · rw [List.getD_eq_getElem?_getD, List.getElem?_set_ne (by omega), List.getElem?_set_self (by omega)]; rfl
  · rw [List.getD_eq_getElem?_getD, List.getElem?_set_self (by rw [List.length_set]; omega)]; rfl
theorem putL_holds (l : List Int) (hb : Byt l) (a : Nat) (h : a % 2 = 0) (ha : a + 2 ≤ l.length) : ofL (putL l (a : Int)) = 0 := by
  rw [putL_good l a h ha, ofL_zero]
  have hz := zeroL_at l a ha
  have hl := zeroL_length l a
  have h0 := (raw_bd _ (zeroL_byt hb a)).1
  have hs := ofL_bd (zeroL l a)
  have e1 := raw_set (zeroL l a) a (ofL (zeroL l a) / 256 % 256) (by omega)
  have e2 := raw_set ((zeroL l a).set a (ofL (zeroL l a) / 256 % 256)) (a + 1) (ofL (zeroL l a) % 256) (by rw [List.length_set]; omega)
  have g2 : ((zeroL l a).set a (ofL (zeroL l a) / 256 % 256)).getD (a + 1) 0 = 0 := by
    rw [List.getD_eq_getElem?_getD, List.getElem?_set_ne (by omega), ← List.getD_eq_getElem?_getD]
    exact hz.2
  rw [if_pos h, hz.1] at e1
  rw [if_neg (by omega), g2, e1] at e2
  rw [e2]
  have e3 : ofL (zeroL l a) = 65535 - fin (raw (zeroL l a)) := rfl
  unfold fin at e3
  split at e3 <;> omega
theorem tells (l : List Int) (j : Nat) (f : Int) (t : Nat) (ht : t < 8) (hj : j < l.length) (hz : ofL l = 0) (hf : f = l.getD j 0 + 2 ^ t ∨ f = l.getD j 0 - 2 ^ t) : ofL (l.set j f) ≠ 0 := by
  rw [ne_eq, ofL_zero, raw_set l j f hj]
  have h0 := ((ofL_zero l).1 hz).1
  have ht' : (2 : Int) ^ t = 1 ∨ (2 : Int) ^ t = 2 ∨ (2 : Int) ^ t = 4 ∨ (2 : Int) ^ t = 8 ∨ (2 : Int) ^ t = 16 ∨ (2 : Int) ^ t = 32 ∨ (2 : Int) ^ t = 64 ∨ (2 : Int) ^ t = 128 := by
    match t, ht with
    | 0, _ => simp
    | 1, _ => simp
    | 2, _ => simp
    | 3, _ => simp
    | 4, _ => simp
    | 5, _ => simp
    | 6, _ => simp
    | 7, _ => simp
  generalize (2 : Int) ^ t = p at *
  generalize l.getD j 0 = u at *
  split <;> omega
theorem set_back (l : List Int) (j : Nat) (f : Int) : (l.set j f).set j (l.getD j 0) = l := by
  rw [List.set_set]
  apply List.ext_getElem?
  intro i
  by_cases h : j = i
  · subst h
    rw [List.getElem?_set]
    by_cases hl : j < l.length
    · simp [hl, List.getD_eq_getElem?_getD]
    · simp [hl, List.getElem?_eq_none (Nat.le_of_not_lt hl)]
  · rw [List.getElem?_set_ne h]
end Go.Proofs.YtbgbplbkombfjaaDoor.SumPlain
