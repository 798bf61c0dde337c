/- A thing that a queue is told: how it lies; how an item lies in a row that is read. -/
import Derived.Test.YtjcihhkeehjgdaaQOps3
namespace Go.Proofs.Ytjcihhkeehjgdaa
open Go.RowKit Go.Proofs.YtjcihhkeehjgdaaW.PrintWords SumPlain
set_option linter.unusedVariables false
set_option linter.unusedSimpArgs false
abbrev SDo := Int × Int × Int × List Int
def kDo : Kd SDo := Kd.pair (Kd.int .i64) (Kd.pair (Kd.int .i64) (Kd.pair (Kd.int .i64) (Kd.slice 5 (Kd.int .u8))))
def zDo : SDo := (0, 0, 0, [])
theorem do_at {w : World} {A : Option Addr} {n : Nat} {xs : List SDo} (h : Kd.C kDo w A n xs) (j : Nat) (hj : j < n) : ∃ ad A3 c3 x0 x1 x2 l, A = some ad ∧ xs.getD j zDo = (x0, x1, x2, l) ∧ w.cell? (ad.add (j * 4)) = some (.int .i64 x0) ∧ w.cell? ⟨(ad.add (j * 4)).block, (ad.add (j * 4)).off + 1, none⟩ = some (.int .i64 x1) ∧ w.cell? ⟨(ad.add (j * 4)).block, (ad.add (j * 4)).off + 2, none⟩ = some (.int .i64 x2) ∧ w.cell? ⟨(ad.add (j * 4)).block, (ad.add (j * 4)).off + 3, none⟩ = some (.slice A3 l.length c3) ∧ (Kd.int .u8).C w A3 l.length l := by
  obtain ⟨ad, c, e, _, hK, hc0⟩ := Kd.C_get h zDo (j : Int) (by omega) (by omega)
  rw [Int.toNat_natCast] at hK hc0
  have hc : ∀ i u, c[i]? = some u → w.cell? (ad.add (j * 4 + i)) = some u := hc0
  obtain ⟨_, _, rfl, s0, _, _, rfl, s1, _, _, rfl, s2, A3, c3, rfl, l3, g3⟩ := hK
  obtain rfl := s0
  obtain rfl := s1
  obtain rfl := s2
  exact ⟨ad, A3, c3, _, _, _, _, e, rfl, hc 0 _ rfl, by rw [← add_field _ _ 1 (by omega)]; exact hc 1 _ rfl, by rw [← add_field _ _ 2 (by omega)]; exact hc 2 _ rfl, by rw [← add_field _ _ 3 (by omega)]; exact hc 3 _ rfl, g3⟩
theorem it_at {w : World} {A : Option Addr} {n : Nat} {xs : List (Int × List Int)} {p : Int} {l : List Int} (h : Kd.C kIt w A n xs) (j : Nat) (hj : j < n) (he : xs.getD j (0, []) = (p, l)) : ∃ ad A1 c1, A = some ad ∧ w.cell? (ad.add (j * 2)) = some (.int .i64 p) ∧ w.cell? ⟨(ad.add (j * 2)).block, (ad.add (j * 2)).off + 1, none⟩ = some (.slice A1 l.length c1) ∧ (Kd.int .u8).C w A1 l.length l := by
  obtain ⟨ad, c, e, _, hK, hc0⟩ := Kd.C_get h (0, []) (j : Int) (by omega) (by omega)
  rw [Int.toNat_natCast] at hK hc0
  rw [he] at hK
  have hc : ∀ i u, c[i]? = some u → w.cell? (ad.add (j * 2 + i)) = some u := hc0
  obtain ⟨_, _, rfl, s0, A1, c1, rfl, l1, g1⟩ := hK
  obtain rfl := s0
  exact ⟨ad, A1, c1, e, hc 0 _ rfl, by rw [← add_field _ _ 1 (by omega)]; exact hc 1 _ rfl, g1⟩
theorem len_cell (w : World) (g : Nat) (A : Option Addr) (N c : Nat) (hq : w.cell? ⟨g, 0, none⟩ = some (.slice A N c)) :
    Calls Try.prog 24 #[.pointer (some ⟨g, 0, none⟩)] w fun e w' => e = .returned (.int .i64 (N : Int)) ∧ w = w' := by
  have hu := Try.underlying38
  go_enter Try.func24, Try.ntmps24
  go_wp2
  go_ret
  exact ⟨rfl, rfl⟩
theorem dropped_cell (w : World) (g : Nat) (d : Int) (hq : w.cell? ⟨g, 1, none⟩ = some (.int .i64 d)) :
    Calls Try.prog 25 #[.pointer (some ⟨g, 0, none⟩)] w fun e w' => e = .returned (.int .i64 d) ∧ w = w' := by
  have hu := Try.underlying38
  go_enter Try.func25, Try.ntmps25
  go_wp2
  go_ret
  exact ⟨rfl, rfl⟩
/-- What is waiting stays little. -/
structure Few (j : Nat) (L : List (Int × List Int)) : Prop where
  len : L.length ≤ j
  each : ∀ x ∈ L, x.2.length ≤ 60
theorem Few.nil : Few 0 [] := ⟨Nat.le_refl _, fun _ h => by simp at h⟩
theorem Few.at {j : Nat} {L : List (Int × List Int)} (h : Few j L) (i : Int) : (itemAt i L).2.length ≤ 60 := by
  unfold itemAt
  by_cases hi : inQ i L
  · rw [if_pos hi]
    have hk : i.toNat < L.length := by have := hi.1; have := hi.2; omega
    rw [List.getD_eq_getElem?_getD, List.getElem?_eq_getElem hk]
    exact h.each _ (List.getElem_mem hk)
  · rw [if_neg hi]; simp
theorem Few.put {j : Nat} {L : List (Int × List Int)} (h : Few j L) (p : Int) {l : List Int} (hl : l.length ≤ 60) : Few (j + 1) (putL p l L) := by
  unfold putL
  split
  · refine ⟨by have := h.len; simp; omega, fun x hx => ?_⟩
    rw [List.mem_append] at hx
    rcases hx with hx | hx
    · exact h.each x hx
    · simp at hx; subst hx; exact hl
  · exact ⟨by have := h.len; omega, h.each⟩
theorem Few.take {j : Nat} {L : List (Int × List Int)} (h : Few j L) (i : Int) : Few (j + 1) (takeL i L) := by
  unfold takeL
  split
  · exact ⟨by have := h.len; have := List.length_eraseIdx_le L i.toNat; omega, fun x hx => h.each x (List.mem_of_mem_eraseIdx hx)⟩
  · exact ⟨by have := h.len; omega, h.each⟩
theorem Few.copy {j : Nat} {L : List (Int × List Int)} (h : Few j L) (i : Int) : Few (j + 1) (copyL i L) := by
  unfold copyL
  split
  · exact h.put _ (h.at i)
  · exact ⟨by have := h.len; omega, h.each⟩
theorem Few.flip {j : Nat} {L : List (Int × List Int)} (h : Few j L) (i bit : Int) : Few (j + 1) (flipL i bit L) := by
  unfold flipL
  split
  · refine ⟨by have := h.len; rw [List.length_set]; omega, fun x hx => ?_⟩
    rcases List.mem_or_eq_of_mem_set hx with hx | rfl
    · exact h.each x hx
    · simp only [List.length_set]; exact h.at i
  · exact ⟨by have := h.len; omega, h.each⟩
theorem Few.putD {j : Nat} {L : List (Int × List Int)} (h : Few j L) (hj : j ≤ 60) : putD L 0 = 0 := by
  unfold Go.Proofs.Ytjcihhkeehjgdaa.putD
  rw [if_pos (by have := h.len; omega)]
theorem Few.copyD {j : Nat} {L : List (Int × List Int)} (h : Few j L) (hj : j ≤ 60) (i : Int) : copyD i L 0 = 0 := by
  unfold Go.Proofs.Ytjcihhkeehjgdaa.copyD
  split
  · exact h.putD hj
  · rfl
end Go.Proofs.Ytjcihhkeehjgdaa
