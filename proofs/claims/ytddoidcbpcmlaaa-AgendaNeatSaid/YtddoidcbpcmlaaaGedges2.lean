-- written by a program of this session (wip/own_print.sh)
import Derived.Test.YtddoidcbpcmlaaaG0
import Derived.Test.YtddoidcbpcmlaaaGedgesR
namespace Go.Proofs.Ytddoidcbpcmlaaa.G
open Go.RowKit Go.Proofs.YtddoidcbpcmlaaaW.PrintWords Go.Proofs.YtddoidcbpcmlaaaW.PrintLast Go.Proofs.YtddoidcbpcmlaaaW.PrintMore
attribute [local go_sem] max2_int min2_int max_two min_two max_three min_three max_four min_four   -- for this text's walks alone
set_option linter.unusedVariables false
set_option linter.unusedSimpArgs false

/-! ### trystlaw28_edges: function 22 -/
-- GIVEN tryst/trystlaw28.edges	["sl67:st:67", "sl67:st:67"]	["sl2:i64"]	1	1
-- IMPORT GedgesR
def trystlaw28_edges.f (k : Nat) (l0 l1 : List S67) : Option (List Int) := trystlaw28_edgesR.f k [l0, l1]
theorem trystlaw28_edges.mono : ∀ a0 a1 k, LeO (trystlaw28_edges.f k a0 a1) (trystlaw28_edges.f (k + 1) a0 a1) := fun a0 a1 k => trystlaw28_edgesR.mono [a0, a1] k
/-- The call of a row, laid in block b, of two rows. -/
theorem trystlaw28_edges.calls2 (k : Nat) (b : Nat) (A0 A1 : Option Addr) (c0 c1 : Nat) (l0 l1 : List S67) (r : List Int) (w : World) (hb : w.heap[b]? = some (.cells #[.slice A0 l0.length c0, .slice A1 l1.length c1] 57 (0, 0))) (hr0 : Kd.C k67 w A0 l0.length l0) (hc0 : l0.length ≤ c0) (hr1 : Kd.C k67 w A1 l1.length l1) (hc1 : l1.length ≤ c1) (h : trystlaw28_edges.f k l0 l1 = some r) :
    Calls Try.prog 22 #[.slice (some ⟨b, 0, none⟩) 2 2] w fun e w' => ∃ v0_ : Value, e = .returned (v0_) ∧ Kd.R (Kd.int .i64) 2 w' w.heap.size (fun _ => True) v0_ r ∧ Below w.heap.size w w' := by
  refine trystlaw28_edgesR.calls k (some ⟨b, 0, none⟩) 2 [l0, l1] r w ⟨rfl, by show (2 : Nat) ≤ 9223372036854775807; decide, fun _ => ⟨⟨b, 0, none⟩, rfl, fun j p hp => ?_⟩⟩ (Nat.le_refl _) h
  match j, hp with
  | 0, hp =>
    obtain rfl := Option.some.inj hp
    exact ⟨[.slice A0 l0.length c0], rfl, ⟨A0, c0, rfl, hc0, hr0⟩, fun q u hu => by
      match q, hu with
      | 0, hu => obtain rfl := Option.some.inj hu; simp [Addr.add]; exact (blk_cell hb 0).trans rfl⟩
  | 1, hp =>
    obtain rfl := Option.some.inj hp
    exact ⟨[.slice A1 l1.length c1], rfl, ⟨A1, c1, rfl, hc1, hr1⟩, fun q u hu => by
      match q, hu with
      | 0, hu => obtain rfl := Option.some.inj hu; rw [add_plain]; exact (blk_cell hb 1).trans rfl⟩
theorem trystlaw28_edges.calls (k : Nat) (A0 : Option Addr) (c0 : Nat) (l0 : List S67) (A1 : Option Addr) (c1 : Nat) (l1 : List S67) (r : List Int) (w : World) : True := trivial

end Go.Proofs.Ytddoidcbpcmlaaa.G
