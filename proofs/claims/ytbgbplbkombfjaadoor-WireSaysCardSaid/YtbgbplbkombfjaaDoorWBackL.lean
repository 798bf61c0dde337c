/- What was written is read: the pieces. -/
import Derived.Test.YtbgbplbkombfjaaDoorWReadL
namespace Go.Proofs.YtbgbplbkombfjaaDoor
open Go.RowKit Go.Proofs.YtbgbplbkombfjaaDoorW.PrintWords SumPlain
set_option linter.unusedVariables false
theorem nx_app (k : Nat) (p x : List Int) (b : Bool) (h : p.length = k) : nx k (p ++ x, b) = (p, (x, b)) := by
  subst h
  unfold nx
  rw [if_neg (by simp)]
  simp
theorem rA_app (a : Int) (h : isAd a) (x : List Int) (b : Bool) : rA (adB a ++ x, b) = (a, (x, b)) := by
  unfold rA
  rw [nx_app 4 (adB a) x b rfl]
  have : adAt (adB a) 0 = a := ad_back a h.1 h.2
  simp only [this]
theorem rN_app (n : Int) (x : List Int) (b : Bool) : rN (nuB n ++ x, b) = (n, (x, b)) := by
  unfold rN
  rw [nx_app 2 (nuB n) x b rfl]
  have : nuAt (nuB n) 0 = n := by simp [nuAt, nuB]; omega
  simp only [this]
theorem rB_app (n : Int) (x : List Int) (b : Bool) : rB (n :: x, b) = (n, (x, b)) := by
  unfold rB
  have := nx_app 1 [n] x b rfl
  simp only [List.cons_append, List.nil_append] at this
  rw [this]
  rfl
theorem rLs_app : ∀ (l : List Int), (∀ a ∈ l, isAd a) → ∀ (x : List Int) (b : Bool), rLs l.length (adsB l ++ x, b) = (l, (x, b))
  | [], _, x, b => by simp [rLs, adsB]
  | a :: l, h, x, b => by
    have e : adsB (a :: l) ++ x = adB a ++ (adsB l ++ x) := by simp [adsB]
    rw [e]
    simp only [List.length_cons, rLs]
    rw [rA_app a (h a (by simp)) (adsB l ++ x) b, rLs_app l (fun c hc => h c (by simp [hc])) x b]
end Go.Proofs.YtbgbplbkombfjaaDoor
