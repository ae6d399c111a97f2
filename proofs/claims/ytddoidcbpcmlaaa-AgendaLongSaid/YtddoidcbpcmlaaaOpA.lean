/- What an argument's cells read as, kind by kind: numbers, bools, texts, structs, slices of whatever of these. -/
import Derived.Test.YtddoidcbpcmlaaaG0
import Derived.Deep.Slices
import Derived.ChangeSame
namespace Go.Proofs.Ytddoidcbpcmlaaa.Op
open Go.ChangeShapes Go.WideShapes Go.RowKit Go.Deep Go.Proofs.YtddoidcbpcmlaaaW.PrintWords Go.Proofs.YtddoidcbpcmlaaaW.PrintLast
set_option linter.unusedVariables false
set_option linter.unusedSimpArgs false
/-- Whatever reads as type t reads as kind d, and φ holds of what is read. -/
def Opk {α : Type} (P : Program) (t : TypeId) (d : Kd α) (φ : α → Prop) : Prop :=
  P.cellsOf t = d.sz ∧ ∀ {H : Type} {enc : TypeId × Value → H} {w : World} {base : Nat} {spare : Nat → Bool} {held : Bool} {fuel : Nat} {cs : List Value} {x : DataW H × List MemPlace}, DataW.trod enc P w base spare held fuel t cs = some x → ∃ z : α, d.K w z cs ∧ φ z
theorem Opk.int {P : Program} {t : TypeId} {k : IntKind} (ht : P.underlying t = some (.int k)) (hC : P.cellsOf t = 1) : Opk P t (Kd.int k) (fun n => (Lit.int k n).wf = true) :=
  ⟨hC, fun h => by obtain ⟨n, rfl, _, hw⟩ := DataW.trod_int ht h; exact ⟨n, rfl, hw⟩⟩
theorem Opk.bool {P : Program} {t : TypeId} (ht : P.underlying t = some .bool) (hC : P.cellsOf t = 1) : Opk P t Kd.bool (fun _ => True) :=
  ⟨hC, fun h => by obtain ⟨b, rfl, _⟩ := DataW.trod_bool ht h; exact ⟨b, rfl, trivial⟩⟩
theorem Opk.string {P : Program} {t : TypeId} (ht : P.underlying t = some .string) (hC : P.cellsOf t = 1) : Opk P t Kd.string (fun s => s.size ≤ maxLen) :=
  ⟨hC, fun h => by obtain ⟨s, rfl, _, hs⟩ := DataW.trod_string ht h; exact ⟨s, rfl, hs⟩⟩
theorem C_of {α : Type} (d : Kd α) (w : World) (a : Addr) (len : Nat) (hlen : len ≤ 9223372036854775807) (xs : Nat → α) (hc : ∀ i, i < len → ∃ cs, d.K w (xs i) cs ∧ ∀ j u, cs[j]? = some u → w.cell? (a.add (i * d.sz + j)) = some u) :
    Kd.C d w (some a) len ((List.range len).map xs) := by
  refine ⟨by simp, hlen, fun _ => ⟨a, rfl, fun j p hp => ?_⟩⟩
  rw [List.getElem?_map] at hp
  by_cases h : j < len
  · rw [List.getElem?_range h] at hp
    obtain rfl := Option.some.inj hp
    obtain ⟨cs, hK, hcs⟩ := hc j h
    exact ⟨cs, d.K_len hK, hK, hcs⟩
  · rw [List.getElem?_eq_none (by simp; omega)] at hp
    cases hp
theorem C_nil {α : Type} (d : Kd α) (w : World) (A : Option Addr) : Kd.C d w A 0 ([] : List α) := ⟨rfl, by omega, fun h => by omega⟩
theorem Opk.slice {α : Type} [Inhabited α] {P : Program} {t e : TypeId} {d : Kd α} {φ : α → Prop} (ht : P.underlying t = some (.slice e)) (hC : P.cellsOf t = 1) (he : Opk P e d φ) : Opk P t (Kd.slice e d) (fun l => l.length ≤ maxLen ∧ ∀ x ∈ l, φ x) :=
  ⟨hC, fun {H enc w base spare held fuel cs x} h => by
    rcases open_slice ht h with ⟨rfl, _⟩ | ⟨a, len, cap, m, n, D, Pl, rfl, _, hl, hm, hmm, _, hi⟩
    · exact ⟨[], ⟨none, 0, rfl, Nat.le_refl _, C_nil _ _ _⟩, by simp, fun x hx => by cases hx⟩
    · obtain ⟨hsz, hop⟩ := he
      have each : ∀ i, i < len → ∃ z : α, φ z ∧ ∃ cs', d.K w z cs' ∧ ∀ j u, cs'[j]? = some u → w.cell? (a.add (i * d.sz + j)) = some u := by
        intro i hil
        obtain ⟨cs', hc, ht'⟩ := hi i (by rw [hmm]; split <;> omega)
        obtain ⟨z, hz, hφ⟩ := hop ht'
        rw [hsz] at hc
        obtain ⟨_, hcl, hat⟩ := World.cells?_some hc
        refine ⟨z, hφ, cs', hz, fun j u hu => ?_⟩
        have hj : j < d.sz := by rw [← hcl]; exact (List.getElem?_eq_some_iff.1 hu).1
        rw [← Go.Deep.add_add, hat j hj, hu]
      obtain ⟨xs, hxs⟩ := choose_lt each
      have hlen : len ≤ 9223372036854775807 := by unfold maxLen at hm; omega
      have hC0 := C_of d w a len hlen xs (fun i hi' => (hxs i hi').2)
      have hl0 : ((List.range len).map xs).length = len := by simp
      refine ⟨(List.range len).map xs, ⟨some a, cap, by rw [hl0], by rw [hl0]; exact hl, by rw [hl0]; exact hC0⟩, by rw [hl0]; exact Nat.le_trans hl hm, fun x hx => ?_⟩
      obtain ⟨i, hi', rfl⟩ := List.mem_map.1 hx
      exact (hxs i (List.mem_range.1 hi')).1⟩
/-- A struct's fields from a place on. -/
structure Fl {α : Type} (P : Program) (fs : List Field) (o : Nat) (d : Kd α) (φ : α → Prop) : Prop where
  get : ∀ {H : Type} {enc : TypeId × Value → H} {w : World} {base : Nat} {spare : Nat → Bool} {held : Bool} {cs : List Value}, cs.length = o + d.sz → (∀ f ∈ fs, ∃ (n : Nat) (y : DataW H × List MemPlace), DataW.trod enc P w base spare held n f.type ((cs.drop f.offset).take (P.cellsOf f.type)) = some y) → ∃ z : α, d.K w z (cs.drop o) ∧ φ z
theorem Fl.last {α : Type} {P : Program} {f : Field} {o : Nat} {d : Kd α} {φ : α → Prop} (ho : f.offset = o) (hf : Opk P f.type d φ) : Fl P [f] o d φ := by
  constructor
  intro H enc w base spare held cs hl h
  obtain ⟨n, y, hy⟩ := h f (by simp)
  rw [ho, hf.1] at hy
  have e : (cs.drop o).take d.sz = cs.drop o := List.take_of_length_le (by rw [List.length_drop]; omega)
  rw [e] at hy
  exact hf.2 hy
theorem Fl.cons {α β : Type} {P : Program} {f : Field} {r : List Field} {o : Nat} {a : Kd α} {b : Kd β} {φ : α → Prop} {ψ : β → Prop} (ho : f.offset = o) (hf : Opk P f.type a φ) (hr : Fl P r (o + a.sz) b ψ) : Fl P (f :: r) o (Kd.pair a b) (fun x => φ x.1 ∧ ψ x.2) := by
  constructor
  intro H enc w base spare held cs hl h
  obtain ⟨n, y, hy⟩ := h f (by simp)
  rw [ho, hf.1] at hy
  obtain ⟨z0, k0, p0⟩ := hf.2 hy
  have hl' : cs.length = (o + a.sz) + b.sz := by rw [hl]; show o + (a.sz + b.sz) = _; omega
  obtain ⟨z1, k1, p1⟩ := hr.get hl' (fun g hg => h g (by simp [hg]))
  refine ⟨(z0, z1), ⟨(cs.drop o).take a.sz, cs.drop (o + a.sz), ?_, k0, k1⟩, p0, p1⟩
  rw [← List.drop_drop, List.take_append_drop]
theorem Opk.struct {α : Type} {P : Program} {t : TypeId} {fs : Array Field} {d : Kd α} {φ : α → Prop} (ht : P.underlying t = some (.struct fs)) (hC : P.cellsOf t = d.sz) (hf : Fl P fs.toList 0 d φ) : Opk P t d φ :=
  ⟨hC, fun {H enc w base spare held fuel cs x} h => by
    obtain ⟨xs, n, _, _, hlen, hxl, hg⟩ := DataW.trod_struct ht h
    obtain ⟨z, k, p⟩ := hf.get (w := w) (cs := cs) (by rw [hlen, hC]; omega) (fun f hm => by
      obtain ⟨i, hi, rfl⟩ := List.getElem_of_mem hm
      have e := hg i fs.toList[i] (by simp)
      have hx : i < xs.length := by rw [hxl]; simpa using hi
      rw [List.getElem?_eq_getElem hx] at e
      exact ⟨n, _, e⟩)
    exact ⟨z, by simpa using k, p⟩⟩
theorem Opk.iso {α β : Type} {P : Program} {t : TypeId} {d : Kd α} {φ : α → Prop} (f : β → α) (g : α → β) (hfg : ∀ x, f (g x) = x) (h : Opk P t d φ) : Opk P t (Kd.iso d f) (fun x => φ (f x)) :=
  ⟨h.1, fun hx => by
    obtain ⟨z, k, p⟩ := h.2 hx
    exact ⟨g z, by show d.K _ (f (g z)) _; rw [hfg]; exact k, by show φ (f (g z)); rw [hfg]; exact p⟩⟩
end Go.Proofs.Ytddoidcbpcmlaaa.Op
