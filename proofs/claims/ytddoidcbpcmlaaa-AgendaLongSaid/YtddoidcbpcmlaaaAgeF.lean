/- Free and busy seconds of a window, in plain words. -/
import Derived.Test.YtddoidcbpcmlaaaAgeN
namespace Go.Proofs.Ytddoidcbpcmlaaa.AgeF
open Go.Proofs.Ytddoidcbpcmlaaa.AgeN
def len : List Sp → Int
  | [] => 0
  | s :: r => s.2 - s.1 + len r
theorem len_app (a b : List Sp) : len (a ++ b) = len a + len b := by
  induction a with
  | nil => simp [len]
  | cons s r ih => show s.2 - s.1 + len (r ++ b) = s.2 - s.1 + len r + len b; omega
def ov (f t : Int) (x : Sp) : Int := max 0 (min x.2 t - max x.1 f)
def ovs (f t : Int) : List Sp → Int
  | [] => 0
  | x :: r => ov f t x + ovs f t r
/-- The free spans behind f, ahead of t. -/
def fr (t : Int) : Int → List Sp → List Sp
  | f, [] => if f < t then [(f, t)] else []
  | f, s :: r => (if s.1 > f ∧ f < t then [(f, min s.1 t)] else []) ++ fr t (max f s.2) r
theorem ovs_up (f t b : Int) (r : List Sp) (h : ∀ x ∈ r, b < x.1) : ovs (max f b) t r = ovs f t r := by
  induction r with
  | nil => rfl
  | cons x r ih =>
    have hx := h x (by simp)
    show ov (max f b) t x + ovs (max f b) t r = ov f t x + ovs f t r
    rw [ih (fun y hy => h y (by simp [hy]))]
    unfold ov
    omega
theorem fr_len (t : Int) (a : List Sp) : ∀ f, Neat a → len (fr t f a) + ovs f t a = max 0 (t - f) := by
  induction a with
  | nil =>
    intro f _
    unfold fr
    by_cases c : f < t
    · rw [if_pos c]; show t - f + 0 + 0 = _; omega
    · rw [if_neg c]; show (0 : Int) + 0 = _; omega
  | cons s r ih =>
    intro f h
    have hs := neat_full _ h s (by simp)
    have i := ih (max f s.2) (neat_tail h)
    rw [ovs_up f t s.2 r (neat_lt r s h)] at i
    unfold fr
    rw [len_app]
    show _ + _ + (ov f t s + ovs f t r) = _
    unfold ov
    by_cases c : s.1 > f ∧ f < t
    · rw [if_pos c]
      show (min s.1 t - f + 0) + _ + _ = _
      omega
    · rw [if_neg c]
      show (0 : Int) + _ + _ = _
      omega
/-- The common spans with one window. -/
def bo (f t : Int) : List Sp → List Sp
  | [] => []
  | s :: r => (if max s.1 f < min s.2 t then [(max s.1 f, min s.2 t)] else []) ++ (if s.2 < t then bo f t r else [])
theorem ovs_late (f t : Int) (r : List Sp) (h : ∀ x ∈ r, t < x.1) : ovs f t r = 0 := by
  induction r with
  | nil => rfl
  | cons x r ih =>
    have hx := h x (by simp)
    show ov f t x + ovs f t r = 0
    rw [ih (fun y hy => h y (by simp [hy]))]
    unfold ov
    omega
theorem bo_len (f t : Int) (a : List Sp) (h : Neat a) : len (bo f t a) = ovs f t a := by
  induction a with
  | nil => rfl
  | cons s r ih =>
    have i := ih (neat_tail h)
    unfold bo
    rw [len_app]
    show _ + _ = ov f t s + ovs f t r
    have e : len (if s.2 < t then bo f t r else []) = ovs f t r := by
      by_cases c : s.2 < t
      · rw [if_pos c, i]
      · rw [if_neg c, ovs_late f t r (fun x hx => by have := neat_lt r s h x hx; omega)]; rfl
    rw [e]
    unfold ov
    by_cases c : max s.1 f < min s.2 t
    · rw [if_pos c]
      show (min s.2 t - max s.1 f + 0) + _ = _
      omega
    · rw [if_neg c]
      show (0 : Int) + _ = _
      omega
end Go.Proofs.Ytddoidcbpcmlaaa.AgeF
