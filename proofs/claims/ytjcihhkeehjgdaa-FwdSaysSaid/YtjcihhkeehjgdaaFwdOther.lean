/- Chapter 19: rows and lost ports as the document has them; the document's own answers. -/
import Derived.Test.YtjcihhkeehjgdaaFwdRef
namespace Go.Proofs.Ytjcihhkeehjgdaa
open Go.RowKit Go.Proofs.YtjcihhkeehjgdaaW.PrintWords Ytjcihhkeehjgdaa.PFwdSays
set_option linter.unusedVariables false
set_option linter.unusedSimpArgs false
theorem cell_heap {w w' : World} (h : w'.heap = w.heap) (a : Addr) : w'.cell? a = w.cell? a := by simp [World.cell?, h]
theorem C_heap {k : IntKind} {w w' : World} {A : Option Addr} {n : Nat} {xs : List Int} (h : (Kd.int k).C w A n xs) (hh : w'.heap = w.heap) : (Kd.int k).C w' A n xs := by
  obtain ⟨h1, h2, h3⟩ := h
  refine ⟨h1, h2, fun hn => ?_⟩
  obtain ⟨ad, he, hc⟩ := h3 hn
  refine ⟨ad, he, fun j q hj => ?_⟩
  obtain ⟨cs, hl, hK, hcell⟩ := hc j q hj
  exact ⟨cs, hl, hK, fun t v hv => by rw [cell_heap hh]; exact hcell t v hv⟩
theorem C78_heap {w w' : World} {A : Option Addr} {n : Nat} {xs : List S78} (h : k78.C w A n xs) (hh : w'.heap = w.heap) : k78.C w' A n xs := by
  obtain ⟨h1, h2, h3⟩ := h
  refine ⟨h1, h2, fun hn => ?_⟩
  obtain ⟨ad, he, hc⟩ := h3 hn
  refine ⟨ad, he, fun j q hj => ?_⟩
  obtain ⟨cs, hl, hK, hcell⟩ := hc j q hj
  obtain ⟨A5, c5, rfl, l5, g5⟩ := k78_open hK
  exact ⟨_, hl, k78_mk w' q l5 (C_heap g5 hh), fun t v hv => by rw [cell_heap hh]; exact hcell t v hv⟩
/-- Rows that came in: what they lead to lies in the world as it is. -/
theorem V_of_C {w : World} {A : Option Addr} {n c : Nat} {xs : List S78} (h : k78.C w A n xs) (hle : n ≤ c) : Kd.V k78 78 w w.heap.size (fun k => k < w.heap.size) (.slice A xs.length c) xs := by
  obtain rfl := h.1
  refine ⟨A, c, rfl, hle, fun W' hW => ?_⟩
  have hb : Below w.heap.size w { W' with os := w.os, tape := w.tape, output := w.output } := by
    refine ⟨rfl, rfl, rfl, ?_, fun k hk => hW k hk hk⟩
    show w.heap.size ≤ W'.heap.size
    rcases Nat.eq_zero_or_pos w.heap.size with h0 | h0
    · omega
    · have := heap_lt (hW (w.heap.size - 1) (by omega) (by omega)) (by omega)
      omega
  exact C78_heap (Kd.C_below h hb) rfl
def conv (y : S78) : S104 := ⟨y.f0, y.f1, y.f2, y.f3, y.f4⟩
def convL (y : S82) : S106 := ⟨y.f0, y.f1⟩
theorem other_l (l : List S78) : ∀ (n i : Nat) (acc : List S104), n + i = l.length → acc.length ≤ i → l.length ≤ 1000000 → rivuletlaw19_other.l0 (n + 1) l acc (i : Int) = some (acc ++ (l.drop i).map conv)
  | 0, i, acc, h, _, _ => by
    have h1 : ¬ ((i : Int) < (l.length : Int)) := by omega
    rw [List.drop_of_length_le (by omega)]
    simp only [rivuletlaw19_other.l0, if_neg h1, List.map_nil, List.append_nil]
  | n + 1, i, acc, h, ha, hm => by
    have h1 : (i : Int) < (l.length : Int) := by omega
    have h0 : (0 : Int) ≤ (i : Int) := by omega
    have h2 : acc.length < 2513169434916 := by omega
    have e1 : rd_T78 l (i : Int) = l[i]'(by omega) := by
      unfold rd_T78
      rw [Int.toNat_natCast, List.getD_eq_getElem?_getD, List.getElem?_eq_getElem (by omega)]; rfl
    have ih := other_l l n (i + 1) (acc ++ [conv (l[i]'(by omega))]) (by omega) (by simp; omega) hm
    rw [rivuletlaw19_other.l0, if_pos h1, if_pos h0, if_pos h2, e1, w64 (by omega), List.drop_eq_getElem_cons (by omega : i < l.length), List.map_cons]
    rw [List.append_assoc] at ih
    exact ih
theorem other_any (A : Option Addr) (n c : Nat) (l : List S78) (w : World) (h : k78.C w A n l) (hle : n ≤ c) (hm : l.length ≤ 1000000) :
    Calls Try.prog 43 #[.slice A n c] w fun e w' => ∃ A' n' c', e = .returned (.slice A' n' c') ∧ n' ≤ c' ∧ k104.C w' A' n' (l.map conv) ∧ Below w.heap.size w w' := by
  have hV := V_of_C h hle
  obtain rfl := h.1
  have hf := other_l l l.length 0 [] (by omega) (by simp) hm
  refine (rivuletlaw19_other.calls (l.length + 1) _ A c l (l.map conv) w hV (by simpa [rivuletlaw19_other.f] using hf)).mono ?_
  rintro e w' ⟨v, rfl, hN, hb⟩
  obtain ⟨A', c', rfl, hl, hC⟩ := Kd.N_reads hN
  exact ⟨A', _, c', rfl, hl, hC, hb⟩
theorem lost_l (l : List S82) : ∀ (n i : Nat) (acc : List S106), n + i = l.length → acc.length ≤ i → l.length ≤ 1000000 → rivuletlaw19_lost.l0 (n + 1) l acc (i : Int) = some (acc ++ (l.drop i).map convL)
  | 0, i, acc, h, _, _ => by
    have h1 : ¬ ((i : Int) < (l.length : Int)) := by omega
    rw [List.drop_of_length_le (by omega)]
    simp only [rivuletlaw19_lost.l0, if_neg h1, List.map_nil, List.append_nil]
  | n + 1, i, acc, h, ha, hm => by
    have h1 : (i : Int) < (l.length : Int) := by omega
    have h0 : (0 : Int) ≤ (i : Int) := by omega
    have h2 : acc.length < 8796093022208 := by omega
    have e1 : rd_T82 l (i : Int) = l[i]'(by omega) := by
      unfold rd_T82
      rw [Int.toNat_natCast, List.getD_eq_getElem?_getD, List.getElem?_eq_getElem (by omega)]; rfl
    have ih := lost_l l n (i + 1) (acc ++ [convL (l[i]'(by omega))]) (by omega) (by simp; omega) hm
    rw [rivuletlaw19_lost.l0, if_pos h1, if_pos h0, if_pos h2, e1, w64 (by omega), List.drop_eq_getElem_cons (by omega : i < l.length), List.map_cons]
    rw [List.append_assoc] at ih
    exact ih
theorem lost19_any (A : Option Addr) (n c : Nat) (l : List S82) (w : World) (h : k82.C w A n l) (hle : n ≤ c) (hm : l.length ≤ 1000000) :
    Calls Try.prog 44 #[.slice A n c] w fun e w' => ∃ A' n' c', e = .returned (.slice A' n' c') ∧ n' ≤ c' ∧ k106.C w' A' n' (l.map convL) ∧ Below w.heap.size w w' := by
  obtain rfl := h.1
  have hf := lost_l l l.length 0 [] (by omega) (by simp) hm
  refine (rivuletlaw19_lost.calls (l.length + 1) A c l (l.map convL) w h hle (by simpa [rivuletlaw19_lost.f] using hf)).mono ?_
  rintro e w' ⟨v, rfl, hR, hb⟩
  obtain ⟨A', c', rfl, hl, hC⟩ := Kd.R_reads hR
  exact ⟨A', _, c', rfl, hl, hC, hb⟩
def is104 (r s g : Int) (y : S104) : Bool := y.f0 == r && (y.f3.f0 == s && y.f3.f1 == g)
theorem is104_conv (r s g : Int) (y : S78) : is104 r s g (conv y) = rowIs r s g y := rfl
theorem firstOf_map (p : S104 → Bool) : ∀ l : List S78, firstOf p (l.map conv) = firstOf (fun y => p (conv y)) l
  | [] => rfl
  | a :: r => by
    rw [List.map_cons, firstOf, firstOf, firstOf_map p r]
def idxAt (i : Nat) : Option Nat → Int
  | some k => ((i + k : Nat) : Int)
  | none => -1
theorem sameKey_f (a b c d : Int) : rivuletref_SameKey.f a b c d = some (a == c && b == d) := by
  unfold rivuletref_SameKey.f
  by_cases h : a = c
  · rw [if_pos h, beq_iff_eq.2 h]; rfl
  · rw [if_neg h, beq_eq_false_iff_ne.2 h]; rfl
theorem find_l (l : List S104) (r s g : Int) (hm : l.length ≤ 1000000) : ∀ n i k : Nat, n + i = l.length → n < k → rivuletref8_Find.l0 k l r (i : Int) s g = some (idxAt i (firstOf (is104 r s g) (l.drop i)))
  | _, _, 0, _, hk => absurd hk (Nat.not_lt_zero _)
  | 0, i, k + 1, h, _ => by
    have h1 : ¬ ((i : Int) < (l.length : Int)) := by omega
    rw [List.drop_of_length_le (by omega)]
    simp only [rivuletref8_Find.l0, if_neg h1]
    rfl
  | n + 1, i, k + 1, h, hk => by
    have h1 : (i : Int) < (l.length : Int) := by omega
    have h0 : (0 : Int) ≤ (i : Int) := by omega
    have ih := find_l l r s g hm n (i + 1) k (by omega) (by omega)
    have e1 : rd_T104 l (i : Int) = l[i]'(by omega) := by
      unfold rd_T104
      rw [Int.toNat_natCast, List.getD_eq_getElem?_getD, List.getElem?_eq_getElem (by omega)]; rfl
    have e2 : ∀ o, idxAt (i + 1) o = idxAt i (o.map (· + 1)) := by
      intro o
      cases o with
      | none => rfl
      | some q => simp [idxAt]; omega
    rw [List.drop_eq_getElem_cons (by omega : i < l.length), rivuletref8_Find.l0, if_pos h1, if_pos h0, e1, w64 (by omega), ih, sameKey_f]
    obtain ⟨y, hy⟩ : ∃ y, y = l[i]'(by omega) := ⟨_, rfl⟩
    rw [← hy]
    by_cases e : y.f0 = r
    · rw [if_pos e]
      simp only [Option.bind_some]
      cases hb : (y.f3.f0 == s && y.f3.f1 == g) with
      | true =>
        have : is104 r s g y = true := by unfold is104; rw [hb, beq_iff_eq.2 e]; rfl
        simp [firstOf, this, idxAt]
      | false =>
        have : is104 r s g y = false := by unfold is104; rw [hb, Bool.and_false]
        rw [if_neg (by simp), firstOf, if_neg (by rw [this]; simp), e2]
    · have : is104 r s g y = false := by unfold is104; rw [beq_eq_false_iff_ne.2 e]; rfl
      rw [if_neg e, firstOf, if_neg (by rw [this]; simp), e2]
theorem find_f (l : List S78) (r s g : Int) (k : Nat) (hm : l.length ≤ 1000000) (hk : l.length < k) : rivuletref8_Find.f k (l.map conv) r s g = some (idxAt 0 (firstOf (rowIs r s g) l)) := by
  have := find_l (l.map conv) r s g (by simpa using hm) l.length 0 k (by simp) hk
  unfold rivuletref8_Find.f
  rw [List.drop_zero, firstOf_map] at this
  exact this
theorem used_f (l : List S78) (r s g : Int) (k : Nat) (hm : l.length ≤ 1000000) (hk : l.length < k) : rivuletref8_Used.f k (l.map conv) r s g = some (idxAt 0 (usedOf l r s g)) := by
  unfold rivuletref8_Used.f
  rw [find_f l r s g k hm hk, find_f l r 0 g k hm hk]
  unfold usedOf
  cases h : firstOf (rowIs r s g) l with
  | none => rfl
  | some q =>
    simp only [Option.bind_some, idxAt]
    rw [if_pos (by omega)]
theorem isLost_l (l : List S82) (q s g : Int) (hm : l.length ≤ 1000000) : ∀ n i k : Nat, n + i = l.length → n < k → rivuletref8_IsLost.l0 k (l.map convL) q (i : Int) s g = some (lostIn (l.drop i) q s g)
  | _, _, 0, _, hk => absurd hk (Nat.not_lt_zero _)
  | 0, i, k + 1, h, _ => by
    have h1 : ¬ ((i : Int) < ((l.map convL).length : Int)) := by simp; omega
    rw [List.drop_of_length_le (by omega)]
    simp only [rivuletref8_IsLost.l0, if_neg h1]
    rfl
  | n + 1, i, k + 1, h, hk => by
    have h1 : (i : Int) < ((l.map convL).length : Int) := by simp; omega
    have h0 : (0 : Int) ≤ (i : Int) := by omega
    have ih := isLost_l l q s g hm n (i + 1) k (by omega) (by omega)
    have e1 : rd_T106 (l.map convL) (i : Int) = convL (l[i]'(by omega)) := by
      unfold rd_T106
      rw [Int.toNat_natCast, List.getD_eq_getElem?_getD, List.getElem?_map, List.getElem?_eq_getElem (by omega)]; rfl
    rw [List.drop_eq_getElem_cons (by omega : i < l.length), rivuletref8_IsLost.l0, if_pos h1, if_pos h0, e1, w64 (by omega), ih, sameKey_f]
    obtain ⟨y, hy⟩ : ∃ y, y = l[i]'(by omega) := ⟨_, rfl⟩
    rw [← hy]
    unfold lostIn
    rw [List.any_cons]
    by_cases e : y.f0 = q
    · rw [if_pos (show (convL y).f0 = q from e)]
      simp only [Option.bind_some]
      have hl : lostEq y q s g = ((convL y).f1.f0 == s && (convL y).f1.f1 == g) := by
        unfold lostEq
        rw [beq_iff_eq.2 e.symm, Bool.true_and, BEq.comm (a := s), BEq.comm (a := g)]
        rfl
      rw [hl]
      cases ((convL y).f1.f0 == s && (convL y).f1.f1 == g) with
      | true => rfl
      | false => rfl
    · rw [if_neg (show ¬ (convL y).f0 = q from e)]
      have hl : lostEq y q s g = false := by
        unfold lostEq
        rw [beq_eq_false_iff_ne.2 (fun h => e h.symm)]
        rfl
      rw [hl, Bool.false_or]
theorem isLost_f (l : List S82) (q s g : Int) (k : Nat) (hm : l.length ≤ 1000000) (hk : l.length < k) : rivuletref8_IsLost.f k (l.map convL) q s g = some (lostIn l q s g) := by
  have := isLost_l l q s g hm l.length 0 k (by omega) hk
  simpa [rivuletref8_IsLost.f] using this
theorem do_l (L : List S78) (X : List S82) (port s g : Int) (q : Nat) (y : S78) (hq : L[q]? = some y) (hX : X.length ≤ 1000000) (hy : y.f4.length ≤ 1000000) : ∀ (n i k : Nat) (acc : List Int), n + i = y.f4.length → n + X.length < k → acc.length ≤ i →
    rivuletref8_Do.l0 k (L.map conv) (X.map convL) port (q : Int) acc (i : Int) s g = some (2, y.f3.f0, y.f3.f1, acc ++ (y.f4.drop i).filter (fun p => !leftOut X port s g p))
  | n, i, 0, acc, _, hk, _ => absurd hk (Nat.not_lt_zero _)
  | n, i, k + 1, acc, h, hk, ha => by
    have hql : q < L.length := (List.getElem?_eq_some_iff.1 hq).1
    have c0 : (0 : Int) ≤ (q : Int) := by omega
    have c1 : (q : Int) < ((L.map conv).length : Int) := by simp; omega
    have e1 : rd_T104 (L.map conv) (q : Int) = conv y := by
      unfold rd_T104
      rw [Int.toNat_natCast, List.getD_eq_getElem?_getD, List.getElem?_map, hq]; rfl
    rw [rivuletref8_Do.l0, if_pos c0, if_pos c1, e1]
    show (if (i : Int) < (y.f4.length : Int) then _ else _) = _
    cases n with
    | zero =>
      rw [if_neg (by omega), List.drop_of_length_le (by omega), List.filter_nil, List.append_nil]
      rfl
    | succ n =>
      have h1 : (i : Int) < (y.f4.length : Int) := by omega
      have h0 : (0 : Int) ≤ (i : Int) := by omega
      rw [if_pos h1, if_pos h0]
      show (if rd y.f4 (i : Int) = port then _ else _) = _
      rw [rd_nat, w64 (by omega), drop_at (by omega : i < y.f4.length)]
      obtain ⟨p, hp⟩ : ∃ p, p = y.f4.getD i 0 := ⟨_, rfl⟩
      by_cases e : p = port
      · have hl : leftOut X port s g p = true := by unfold leftOut; rw [beq_iff_eq.2 e]; rfl
        rw [← hp, if_pos e, do_l L X port s g q y hq hX hy n (i + 1) k acc (by omega) (by omega) (by omega), List.filter_cons_of_neg (by rw [hl]; simp)]
      · rw [← hp, if_neg e]
        have hI := isLost_f X p s g k hX (by omega)
        have hgo : (conv y).f4 = y.f4 := rfl
        simp only [hgo, rd_nat, ← hp]
        rw [hI]
        simp only [Option.bind_some]
        have hl : leftOut X port s g p = lostIn X p s g := by unfold leftOut; rw [beq_eq_false_iff_ne.2 e]; rfl
        cases hb : lostIn X p s g with
        | true =>
          rw [if_pos rfl, do_l L X port s g q y hq hX hy n (i + 1) k acc (by omega) (by omega) (by omega), List.filter_cons_of_neg (by rw [hl, hb]; simp)]
        | false =>
          rw [if_neg (by simp), if_pos (by omega), do_l L X port s g q y hq hX hy n (i + 1) k (acc ++ [p]) (by omega) (by omega) (by simp; omega), List.filter_cons_of_pos (by rw [hl, hb]; rfl), List.append_assoc]
          rfl
theorem used_lt {l : List S78} {r s g : Int} {k : Nat} (hu : usedOf l r s g = some k) : k < l.length := by
  unfold usedOf at hu
  cases hf : firstOf (rowIs r s g) l with
  | some k' => rw [hf] at hu; injection hu with hu; subst hu; exact firstOf_lt hf
  | none => rw [hf] at hu; exact firstOf_lt hu
theorem do_f (L : List S78) (X : List S82) (r s g port : Int) (hL : L.length ≤ 1000000) (hX : X.length ≤ 1000000) (hy : ∀ y ∈ L, y.f4.length ≤ 1000000) :
    rivuletref8_Do.f 3000003 (L.map conv) (X.map convL) r s g port = some ((deed L X r s g port).kind, (deed L X r s g port).s, (deed L X r s g port).g, (deed L X r s g port).out) := by
  unfold rivuletref8_Do.f
  rw [used_f L r s g 3000003 hL (by omega), Option.bind_some]
  unfold deed
  cases hu : usedOf L r s g with
  | none => rfl
  | some q =>
    have hql := used_lt hu
    have hq : L[q]? = some L[q] := List.getElem?_eq_getElem hql
    have hd : L.getD q z78 = L[q] := by rw [List.getD_eq_getElem?_getD, hq]; rfl
    have e1 : rd_T104 (L.map conv) ((0 + q : Nat) : Int) = conv L[q] := by
      unfold rd_T104
      rw [Int.toNat_natCast, Nat.zero_add, List.getD_eq_getElem?_getD, List.getElem?_map, hq]; rfl
    have hi : idxAt 0 (some q) = ((0 + q : Nat) : Int) := rfl
    rw [hi, if_neg (by omega), if_pos (by omega), if_pos (by simp; omega), e1]
    simp only [hd]
    show (if L[q].f1 = port then _ else _) = _
    by_cases e : L[q].f1 = port
    · rw [if_pos e, if_pos e]
      have := do_l L X port s g q L[q] hq hX (hy _ (List.getElem_mem hql)) L[q].f4.length 0 3000003 [] (by omega) (by have := hy _ (List.getElem_mem hql); omega) (by simp)
      rw [Nat.zero_add]
      simpa using this
    · rw [if_neg e, if_neg e]
      rfl
theorem refUsed_any (A : Option Addr) (n c : Nat) (L : List S78) (r s g : Int) (w : World) (h : k104.C w A n (L.map conv)) (hle : n ≤ c) (hm : L.length ≤ 1000000) :
    Calls Try.prog 45 #[.slice A n c, .int .i64 r, .agg #[.int .u32 s, .int .u32 g]] w fun e w' => e = .returned (.int .i64 (idxAt 0 (usedOf L r s g))) ∧ Below w.heap.size w w' := by
  obtain rfl := h.1
  exact rivuletref8_Used.calls 3000003 A c (L.map conv) r s g _ w h hle (used_f L r s g 3000003 hm (by omega))
theorem refDo_any (A B : Option Addr) (n c m d : Nat) (L : List S78) (X : List S82) (r s g port : Int) (w : World) (h : k104.C w A n (L.map conv)) (hle : n ≤ c) (hx : k106.C w B m (X.map convL)) (hlx : m ≤ d) (hL : L.length ≤ 1000000) (hX : X.length ≤ 1000000) (hy : ∀ y ∈ L, y.f4.length ≤ 1000000) :
    Calls Try.prog 42 #[.slice A n c, .slice B m d, .int .i64 r, .agg #[.int .u32 s, .int .u32 g], .int .i64 port] w fun e w' => ∃ Ao no co, e = .returned (.tuple #[.int .i64 (deed L X r s g port).kind, .agg #[.int .u32 (deed L X r s g port).s, .int .u32 (deed L X r s g port).g], .slice Ao no co]) ∧ no ≤ co ∧ (Kd.int .i64).C w' Ao no (deed L X r s g port).out ∧ Below w.heap.size w w' := by
  obtain rfl := h.1
  obtain rfl := hx.1
  refine (rivuletref8_Do.calls 3000003 A c (L.map conv) B d (X.map convL) r s g port _ _ _ _ w h hle hx hlx (do_f L X r s g port hL hX hy)).mono ?_
  rintro e w' ⟨v, rfl, hR, hb⟩
  obtain ⟨Ao, co, rfl, hlo, hC⟩ := Kd.R_reads hR
  exact ⟨Ao, _, co, rfl, hlo, hC, hb⟩
theorem equal_l (a : List Int) (hm : a.length ≤ 1000000) : ∀ n i k : Nat, n + i = a.length → n < k → slices_Equal_int_int.l0 k a a (a.length : Int) (i : Int) = some true
  | _, _, 0, _, hk => absurd hk (Nat.not_lt_zero _)
  | 0, i, k + 1, h, _ => by
    have h1 : ¬ ((i : Int) < (a.length : Int)) := by omega
    simp only [slices_Equal_int_int.l0, if_neg h1]
  | n + 1, i, k + 1, h, hk => by
    have h1 : (i : Int) < (a.length : Int) := by omega
    have h0 : (0 : Int) ≤ (i : Int) := by omega
    rw [slices_Equal_int_int.l0, if_pos h1, if_pos h0, if_pos h1, if_pos h1, if_pos rfl, w64 (by omega)]
    exact equal_l a hm n (i + 1) k (by omega) (by omega)
theorem same_any (A B : Option Addr) (n m c d : Nat) (y : S78) (w : World) (ha : (Kd.int .i64).C w A n y.f4) (hc : n ≤ c) (hb : (Kd.int .i64).C w B m y.f4) (hd : m ≤ d) (hm : y.f4.length ≤ 1000000) :
    Calls Try.prog 46 #[.agg #[.int .i64 y.f0, .int .i64 y.f1, .int .i64 y.f2, .int .u32 y.f3.f0, .int .u32 y.f3.f1, .slice A n c], .agg #[.int .i64 y.f0, .int .i64 y.f1, .int .i64 y.f2, .int .u32 y.f3.f0, .int .u32 y.f3.f1, .slice B m d]] w fun e w' => e = .returned (.bool true) ∧ Below w.heap.size w w' := by
  obtain rfl := ha.1
  obtain rfl := hb.1
  refine want_Same.calls (y.f4.length + 1) y.f0 y.f1 y.f2 y.f3.f0 y.f3.f1 A c y.f4 y.f0 y.f1 y.f2 y.f3.f0 y.f3.f1 B d y.f4 true w ha hc hb hd ?_
  unfold want_Same.f slices_Equal_int_int.f
  have := equal_l y.f4 hm y.f4.length 0 (y.f4.length + 1) (by omega) (by omega)
  rw [if_pos rfl, if_pos rfl, if_pos rfl, if_pos (by simp), if_pos rfl]
  rw [show ((0 : Nat) : Int) = 0 from rfl] at this
  rw [this]
  rfl
end Go.Proofs.Ytjcihhkeehjgdaa
