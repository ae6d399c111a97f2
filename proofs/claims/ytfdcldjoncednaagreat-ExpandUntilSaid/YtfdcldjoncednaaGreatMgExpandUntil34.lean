/- Texts of this claim, merged: Op, OpRule, PureExpandUntil. -/
import Derived.Test.YtfdcldjoncednaaGreatMgExpandUntil7
import Derived.Deep.Slices
import Derived.ChangeSame
import Derived.Test.YtfdcldjoncednaaGreatMgExpandUntil26
import Derived.Test.YtfdcldjoncednaaGreatMgExpandUntil32
import Derived.Test.YtfdcldjoncednaaGreatMgExpandUntil33
/- What an argument's cells read as, kind by kind: numbers, bools, texts, structs, slices of whatever of these. -/
namespace Go.Proofs.YtfdcldjoncednaaGreat.Op
open Go.ChangeShapes Go.WideShapes Go.RowKit Go.Deep Go.Proofs.YtfdcldjoncednaaGreatW.PrintWords Go.Proofs.YtfdcldjoncednaaGreatW.PrintLast
set_option linter.unusedVariables false
set_option linter.unusedSimpArgs false
/-- Whatever reads as type t reads as kind d, and φ holds of what is read. -/
def Opk {α : Type} (P : Program) (t : TypeId) (d : Kd α) (φ : α → Prop) : Prop :=
 P.cellsOf t = d.sz ∧ ∀ {H : Type} {enc : TypeId × Value → H} {w : World} {base : Nat} {spare : Nat → Bool} {held : Bool} {fuel : Nat} {cs : List Value} {x : DataW H × List MemPlace}, DataW.trod enc P w base spare held fuel t cs = some x → ∃ z : α, d.K w z cs ∧ φ z
theorem Opk.int {P : Program} {t : TypeId} {k : IntKind} (ht : P.underlying t = some (.int k)) (hC : P.cellsOf t = 1) : Opk P t (Kd.int k) (fun n => (Lit.int k n).wf = true) :=
 ⟨hC, fun h => by obtain ⟨n, rfl, _, hw⟩ := DataW.trod_int ht h; exact ⟨n, rfl, hw⟩⟩
theorem Opk.bool {P : Program} {t : TypeId} (ht : P.underlying t = some .bool) (hC : P.cellsOf t = 1) : Opk P t Kd.bool (fun _ => True) :=
 ⟨hC, fun h => by obtain ⟨b, rfl, _⟩ := DataW.trod_bool ht h; exact ⟨b, rfl, trivial⟩⟩
theorem Opk.string {P : Program} {t : TypeId} (ht : P.underlying t = some .string) (hC : P.cellsOf t = 1) : Opk P t Kd.string (fun s => s.size ≤ maxLen) :=
 ⟨hC, fun h => by obtain ⟨s, rfl, _, hs⟩ := DataW.trod_string ht h; exact ⟨s, rfl, hs⟩⟩
theorem C_of {α : Type} (d : Kd α) (w : World) (a : Addr) (len : Nat) (hlen : len ≤ 9223372036854775807) (xs : Nat → α) (hc : ∀ i, i < len → ∃ cs, d.K w (xs i) cs ∧ ∀ j u, cs[j]? = some u → w.cell? (a.add (i * d.sz + j)) = some u) :
  Kd.C d w (some a) len ((List.range len).map xs) := by
 refine ⟨by simp, hlen, fun _ => ⟨a, rfl, fun j p hp => ?_⟩⟩
 rw [List.getElem?_map] at hp
 by_cases h : j < len
 ·rw [List.getElem?_range h] at hp
  obtain rfl := Option.some.inj hp
  obtain ⟨cs, hK, hcs⟩ := hc j h
  exact ⟨cs, d.K_len hK, hK, hcs⟩
 ·rw [List.getElem?_eq_none (by simp; omega)] at hp
  cases hp
theorem C_nil {α : Type} (d : Kd α) (w : World) (A : Option Addr) : Kd.C d w A 0 ([] : List α) := ⟨rfl, by omega, fun h => by omega⟩
theorem Opk.slice {α : Type} [Inhabited α] {P : Program} {t e : TypeId} {d : Kd α} {φ : α → Prop} (ht : P.underlying t = some (.slice e)) (hC : P.cellsOf t = 1) (he : Opk P e d φ) : Opk P t (Kd.slice e d) (fun l => l.length ≤ maxLen ∧ ∀ x ∈ l, φ x) :=
 ⟨hC, fun {H enc w base spare held fuel cs x} h => by
  rcases open_slice ht h with ⟨rfl, _⟩ | ⟨a, len, cap, m, n, D, Pl, rfl, _, hl, hm, hmm, _, hi⟩
  ·exact ⟨[], ⟨none, 0, rfl, Nat.le_refl _, C_nil _ _ _⟩, by simp, fun x hx => by cases hx⟩
  ·obtain ⟨hsz, hop⟩ := he
   have each : ∀ i, i < len → ∃ z : α, φ z ∧ ∃ cs', d.K w z cs' ∧ ∀ j u, cs'[j]? = some u → w.cell? (a.add (i * d.sz + j)) = some u := by
    intro i hil
    obtain ⟨cs', hc, ht'⟩ := hi i (by rw [hmm]; split <;> omega)
    obtain ⟨z, hz, hφ⟩ := hop ht'
    rw [hsz] at hc
    obtain ⟨_, hcl, hat⟩ := World.cells?_some hc
    refine ⟨z, hφ, cs', hz, fun j u hu => ?_⟩
    have hj : j < d.sz := by rw [← hcl]; exact (List.getElem?_eq_some_iff.1 hu).1
    rw [← Go.Deep.add_add, hat j hj, hu]
   obtain ⟨xs, hxs⟩ := choose_lt each
   have hlen : len ≤ 9223372036854775807 := by unfold maxLen at hm; omega
   have hC0 := C_of d w a len hlen xs (fun i hi' => (hxs i hi').2)
   have hl0 : ((List.range len).map xs).length = len := by simp
   refine ⟨(List.range len).map xs, ⟨some a, cap, by rw [hl0], by rw [hl0]; exact hl, by rw [hl0]; exact hC0⟩, by rw [hl0]; exact Nat.le_trans hl hm, fun x hx => ?_⟩
   obtain ⟨i, hi', rfl⟩ := List.mem_map.1 hx
   exact (hxs i (List.mem_range.1 hi')).1⟩
/-- A struct's fields from a place on. -/
structure Fl {α : Type} (P : Program) (fs : List Field) (o : Nat) (d : Kd α) (φ : α → Prop) : Prop where
 get : ∀ {H : Type} {enc : TypeId × Value → H} {w : World} {base : Nat} {spare : Nat → Bool} {held : Bool} {cs : List Value}, cs.length = o + d.sz → (∀ f ∈ fs, ∃ (n : Nat) (y : DataW H × List MemPlace), DataW.trod enc P w base spare held n f.type ((cs.drop f.offset).take (P.cellsOf f.type)) = some y) → ∃ z : α, d.K w z (cs.drop o) ∧ φ z
theorem Fl.last {α : Type} {P : Program} {f : Field} {o : Nat} {d : Kd α} {φ : α → Prop} (ho : f.offset = o) (hf : Opk P f.type d φ) : Fl P [f] o d φ := by
 constructor
 intro H enc w base spare held cs hl h
 obtain ⟨n, y, hy⟩ := h f (by simp)
 rw [ho, hf.1] at hy
 have e : (cs.drop o).take d.sz = cs.drop o := List.take_of_length_le (by rw [List.length_drop]; omega)
 rw [e] at hy
 exact hf.2 hy
theorem Fl.cons {α β : Type} {P : Program} {f : Field} {r : List Field} {o : Nat} {a : Kd α} {b : Kd β} {φ : α → Prop} {ψ : β → Prop} (ho : f.offset = o) (hf : Opk P f.type a φ) (hr : Fl P r (o + a.sz) b ψ) : Fl P (f :: r) o (Kd.pair a b) (fun x => φ x.1 ∧ ψ x.2) := by
 constructor
 intro H enc w base spare held cs hl h
 obtain ⟨n, y, hy⟩ := h f (by simp)
 rw [ho, hf.1] at hy
 obtain ⟨z0, k0, p0⟩ := hf.2 hy
 have hl' : cs.length = (o + a.sz) + b.sz := by rw [hl]; show o + (a.sz + b.sz) = _; omega
 obtain ⟨z1, k1, p1⟩ := hr.get hl' (fun g hg => h g (by simp [hg]))
 refine ⟨(z0, z1), ⟨(cs.drop o).take a.sz, cs.drop (o + a.sz), ?_, k0, k1⟩, p0, p1⟩
 rw [← List.drop_drop, List.take_append_drop]
theorem Opk.struct {α : Type} {P : Program} {t : TypeId} {fs : Array Field} {d : Kd α} {φ : α → Prop} (ht : P.underlying t = some (.struct fs)) (hC : P.cellsOf t = d.sz) (hf : Fl P fs.toList 0 d φ) : Opk P t d φ :=
 ⟨hC, fun {H enc w base spare held fuel cs x} h => by
  obtain ⟨xs, n, _, _, hlen, hxl, hg⟩ := DataW.trod_struct ht h
  obtain ⟨z, k, p⟩ := hf.get (w := w) (cs := cs) (by rw [hlen, hC]; omega) (fun f hm => by
   obtain ⟨i, hi, rfl⟩ := List.getElem_of_mem hm
   have e := hg i fs.toList[i] (by simp)
   have hx : i < xs.length := by rw [hxl]; simpa using hi
   rw [List.getElem?_eq_getElem hx] at e
   exact ⟨n, _, e⟩)
  exact ⟨z, by simpa using k, p⟩⟩
theorem Opk.iso {α β : Type} {P : Program} {t : TypeId} {d : Kd α} {φ : α → Prop} (f : β → α) (g : α → β) (hfg : ∀ x, f (g x) = x) (h : Opk P t d φ) : Opk P t (Kd.iso d f) (fun x => φ (f x)) :=
 ⟨h.1, fun hx => by
  obtain ⟨z, k, p⟩ := h.2 hx
  exact ⟨g z, by show d.K _ (f (g z)) _; rw [hfg]; exact k, by show φ (f (g z)); rw [hfg]; exact p⟩⟩
end Go.Proofs.YtfdcldjoncednaaGreat.Op
/- What an argument of rules reads as. -/
namespace Go.Proofs.YtfdcldjoncednaaGreat.OpRule
open Go.ChangeShapes Go.WideShapes Go.RowKit Go.Deep Go.Proofs.YtfdcldjoncednaaGreatW.PrintWords Go.Proofs.YtfdcldjoncednaaGreatW.PrintLast Go.Proofs.YtfdcldjoncednaaGreat.M Go.Proofs.YtfdcldjoncednaaGreat.Op Go.Proofs.YtfdcldjoncednaaGreat.Ru
set_option linter.unusedVariables false
set_option linter.unusedSimpArgs false
instance : Inhabited S80 := ⟨z80⟩
def PhW (x : S80) : Prop := (Lit.int .i64 x.f0).wf = true ∧ (Lit.int .i64 x.f1).wf = true
set_option maxRecDepth 100000 in
theorem opW : Opk Tryz.prog 80 k80 PhW :=
 Opk.iso (d := Kd.pair (Kd.int .i64) (Kd.int .i64)) (φ := fun x => (Lit.int .i64 x.1).wf = true ∧ (Lit.int .i64 x.2).wf = true) (fun x : S80 => (x.f0, x.f1)) (fun x : Int × Int => (⟨x.1, x.2⟩ : S80)) (fun _ => rfl) (Opk.struct (P := Tryz.prog) Tryz.underlying80 (by kernel_rfl)
  (Fl.cons rfl (Opk.int Tryz.underlying3 (by kernel_rfl)) (Fl.last rfl (Opk.int Tryz.underlying3 (by kernel_rfl)))))
abbrev W64 (n : Int) : Prop := (Lit.int .i64 n).wf = true
set_option maxRecDepth 100000 in
theorem opT : Opk Tryz.prog 23 (Kd.pair (Kd.int .i64) (Kd.pair (Kd.int .i64) Kd.string)) (fun x => W64 x.1 ∧ W64 x.2.1 ∧ x.2.2.size ≤ maxLen) :=
 Opk.struct (P := Tryz.prog) Tryz.underlying23 (by kernel_rfl) (Fl.cons rfl (Opk.int Tryz.underlying3 (by kernel_rfl)) (Fl.cons rfl (Opk.int Tryz.underlying2 (by kernel_rfl)) (Fl.last rfl (Opk.string Tryz.underlying9 (by kernel_rfl)))))
abbrev LI : Kd (List Int) := Kd.slice 3 (Kd.int .i64)
abbrev LW : Kd (List S80) := Kd.slice 80 k80
set_option maxRecDepth 100000 in
theorem opI : Opk Tryz.prog 24 LI (fun l => l.length ≤ maxLen ∧ ∀ x ∈ l, W64 x) := Opk.slice Tryz.underlying24 (by kernel_rfl) (Opk.int Tryz.underlying3 (by kernel_rfl))
set_option maxRecDepth 100000 in
theorem opD : Opk Tryz.prog 25 LW (fun l => l.length ≤ maxLen ∧ ∀ x ∈ l, PhW x) := Opk.slice Tryz.underlying25 (by kernel_rfl) opW
abbrev d := Kd.pair (Kd.int .i64) (Kd.pair (Kd.int .i64) (Kd.pair (Kd.int .i64) (Kd.pair (Kd.pair (Kd.int .i64) (Kd.pair (Kd.int .i64) Kd.string)) (Kd.pair (Kd.bool) (Kd.pair (Kd.int .i64) (Kd.pair (LI) (Kd.pair (LI) (Kd.pair (LI) (Kd.pair (LW) (Kd.pair (LI) (Kd.pair (LI) (Kd.pair (LI) (Kd.pair (LI) (LI))))))))))))))
abbrev V := Int × Int × Int × (Int × Int × ByteArray) × Bool × Int × List Int × List Int × List Int × List S80 × List Int × List Int × List Int × List Int × List Int
/-- What is asked of a rule that came in: its end's zone is no longer than a text may be. -/
def Ph (x : V) : Prop := x.2.2.2.1.2.2.size ≤ maxLen
set_option maxRecDepth 100000 in
theorem op : Opk Tryz.prog 27 d Ph := by
 have h : ∃ φ, (∀ x : V, φ x → Ph x) ∧ Opk Tryz.prog 27 d φ := ⟨_, fun x hx => hx.2.2.2.1.2.2, Opk.struct (P := Tryz.prog) Tryz.underlying27 (by kernel_rfl)
  (Fl.cons rfl (Opk.int Tryz.underlying3 (by kernel_rfl)) (Fl.cons rfl (Opk.int Tryz.underlying3 (by kernel_rfl)) (Fl.cons rfl (Opk.int Tryz.underlying3 (by kernel_rfl)) (Fl.cons rfl (opT) (Fl.cons rfl (Opk.bool Tryz.underlying4 (by kernel_rfl)) (Fl.cons rfl (Opk.int Tryz.underlying3 (by kernel_rfl)) (Fl.cons rfl (opI) (Fl.cons rfl (opI) (Fl.cons rfl (opI) (Fl.cons rfl (opD) (Fl.cons rfl (opI) (Fl.cons rfl (opI) (Fl.cons rfl (opI) (Fl.cons rfl (opI) (Fl.last rfl (opI))))))))))))))))⟩
 obtain ⟨φ, hφ, h1, h2⟩ := h
 exact ⟨h1, fun hx => by obtain ⟨z, k, q⟩ := h2 hx; exact ⟨z, k, hφ z q⟩⟩
def zero : Value := .agg #[.int .i64 0, .int .i64 0, .int .i64 0, .int .i64 0, .int .i64 0, .string ⟨#[]⟩, .bool false, .int .i64 0, .slice none 0 0, .slice none 0 0, .slice none 0 0, .slice none 0 0, .slice none 0 0, .slice none 0 0, .slice none 0 0, .slice none 0 0, .slice none 0 0]
def ru (x : V) : Ru := ⟨x.1, x.2.1, x.2.2.1, x.2.2.2.1.1, x.2.2.2.1.2.1, x.2.2.2.1.2.2, x.2.2.2.2.1, x.2.2.2.2.2.1, x.2.2.2.2.2.2.1, x.2.2.2.2.2.2.2.1, x.2.2.2.2.2.2.2.2.1, x.2.2.2.2.2.2.2.2.2.1, x.2.2.2.2.2.2.2.2.2.2.1, x.2.2.2.2.2.2.2.2.2.2.2.1, x.2.2.2.2.2.2.2.2.2.2.2.2.1, x.2.2.2.2.2.2.2.2.2.2.2.2.2.1, x.2.2.2.2.2.2.2.2.2.2.2.2.2.2⟩
theorem form {w : World} {x : V} {cs : List Value} (h : d.K w x cs) : ∃ p : Rp, cs = (agg (ru x) p).toList ∧ Ok (ru x) p w := by
 obtain ⟨x0, x1, x2, ⟨x3, x4, x5⟩, x6, x7, x8, x9, x10, x11, x12, x13, x14, x15, x16⟩ := x
 obtain ⟨a0, b0, rfl, e0, a1, b1, rfl, e1, a2, b2, rfl, e2, a3, b3, rfl, ⟨a4, b4, rfl, e4, a5, b5, rfl, e5, e6⟩, a6, b6, rfl, e7, a7, b7, rfl, e8, a8, b8, rfl, e9, a9, b9, rfl, e10, a10, b10, rfl, e11, a11, b11, rfl, e12, a12, b12, rfl, e13, a13, b13, rfl, e14, a14, b14, rfl, e15, a15, b15, rfl, e16, e17⟩ := h
 change _ = [_] at e0 e1 e2 e4 e5 e6 e7 e8
 subst e0 e1 e2 e4 e5 e6 e7 e8
 obtain ⟨A8, c8, rfl, d8, h8⟩ := e9
 obtain ⟨A9, c9, rfl, d9, h9⟩ := e10
 obtain ⟨A10, c10, rfl, d10, h10⟩ := e11
 obtain ⟨A11, c11, rfl, d11, h11⟩ := e12
 obtain ⟨A12, c12, rfl, d12, h12⟩ := e13
 obtain ⟨A13, c13, rfl, d13, h13⟩ := e14
 obtain ⟨A14, c14, rfl, d14, h14⟩ := e15
 obtain ⟨A15, c15, rfl, d15, h15⟩ := e16
 obtain ⟨A16, c16, rfl, d16, h16⟩ := e17
 exact ⟨⟨A8, c8, A9, c9, A10, c10, A11, c11, A12, c12, A13, c13, A14, c14, A15, c15, A16, c16⟩, rfl, ⟨h8, d8, h9, d9, h10, d10, h11, d11, h12, d12, h13, d13, h14, d14, h15, d15, h16, d16⟩⟩
end Go.Proofs.YtfdcldjoncednaaGreat.OpRule
/- What a rule means is what the document says: with no condition. (Written by gen_lawunt.py.) -/
namespace Go.Proofs.YtfdcldjoncednaaGreat.Pure
open Go.RowKit Go.Proofs.YtfdcldjoncednaaGreatW.PrintWords Go.Proofs.YtfdcldjoncednaaGreatW.PrintLast Go.Proofs.YtfdcldjoncednaaGreatW.PrintMore Go.Proofs.YtfdcldjoncednaaGreat.M Go.Proofs.YtfdcldjoncednaaGreat.Cal Go.Proofs.YtfdcldjoncednaaGreat.FunA Go.Proofs.YtfdcldjoncednaaGreat.Ru Go.Proofs.YtfdcldjoncednaaGreat.MatP Go.Proofs.YtfdcldjoncednaaGreat.MatG Go.Proofs.YtfdcldjoncednaaGreat.RecG Go.Proofs.YtfdcldjoncednaaGreat.RefF Go.Proofs.YtfdcldjoncednaaGreat.ExD Go.Proofs.YtfdcldjoncednaaGreat.ExE Go.Proofs.YtfdcldjoncednaaGreat.ExI Go.Proofs.YtfdcldjoncednaaGreat.ExU Go.Proofs.YtfdcldjoncednaaGreat.PureE Go.Proofs.YtfdcldjoncednaaGreat.ExB Go.Proofs.YtfdcldjoncednaaGreat.ExR Go.Proofs.YtfdcldjoncednaaGreat.ExL Go.Proofs.YtfdcldjoncednaaGreat.RefM Go.Proofs.YtfdcldjoncednaaGreat.ExV Go.Proofs.YtfdcldjoncednaaGreat.ExM
set_option linter.unusedVariables false
set_option linter.unusedSimpArgs false
namespace ExpandUntilW
attribute [local go_sem] max2_int min2_int max_two min_two
theorem reform (r : Ru) (p : Rp) (k : Nat) (rt : Bool) (w : World) (ok : Ok r p w) (h : trystref12_RightTime.f k r.a3 r.a4 r.a5 = some rt) :
  Calls Tryz.prog 16 #[.agg (agg r p)] w fun e w' => e = .returned (.bool (frmB r rt)) ∧ Below w.heap.size w w' :=
 RefF.walk r p k rt (oth r) w ok h rfl (fun i hi => rfl)
/-- Two equal lists are alike. -/
theorem same (l : List Int) (hl : l.length ≤ 17000000000000) : ∀ (j i : Nat), j + i = l.length → trystlaw15_Same.l0 (j + 1) l l (l.length : Int) (i : Int) = some true := by
 intro j
 induction j with
 | zero => intro i h; simp only [trystlaw15_Same.l0]; rw [if_neg (by omega)]
 | succ j ih =>
  intro i h
  rw [trystlaw15_Same.l0, if_pos (by omega), if_pos (by omega), if_pos (by omega), if_pos (by omega), if_pos rfl, w64 (by omega) (by omega), show (i : Int) + 1 = ((i + 1 : Nat) : Int) by omega]
  exact ih (i + 1) (by omega)
theorem sameN (n : Nat) (A : Option Addr) (c : Nat) (A' : Option Addr) (c' : Nat) (l : List Int) (w : World) (hC : (Kd.int .i64).C w A n l) (hc : n ≤ c) (hC' : (Kd.int .i64).C w A' n l) (hc' : n ≤ c') (hn : n ≤ 17000000000000) :
  Calls Tryz.prog 19 #[.slice A n c, .slice A' n c'] w fun e w' => e = .returned (.bool true) ∧ Drawn0 w w' := by
 obtain rfl := Kd.C_len hC
 refine trystlaw15_Same.calls (l.length + 1) A c l A' c' l true w hC hc hC' hc' ?_
 unfold trystlaw15_Same.f
 rw [if_pos rfl]
 exact same l hn l.length 0 (by omega)
/-- How many are asked of the document, less one. -/
def k0 (m : Int) : Int := if 300 < m then 300 else m
/-- What is asked of both lists. -/
def Good (most : Int) (L W : List Int) (more : Bool) : Prop := (most > 300 → (W.length : Int) > 300 → 300 ≤ L.length ∧ 300 ≤ W.length ∧ L.take 300 = W.take 300) ∧
 (¬ (most > 300 ∧ (W.length : Int) > 300) → more = decide ((W.length : Int) > k0 most) ∧ L.length ≤ W.length ∧ W.take L.length = L ∧ (if (W.length : Int) < k0 most then (W.length : Int) else k0 most) = (L.length : Int))
theorem good (U : List Int) (most : Int) (h : 0 ≤ most) : Good most (U.take most.toNat) (U.take (k0 most + 1).toNat) (decide (most < (U.length : Int))) := by
 unfold Good k0
 by_cases c : 300 < most
 ·rw [if_pos c]
  have e : ((300 : Int) + 1).toNat = 301 := rfl
  rw [e]
  refine ⟨fun _ q => ?_, fun q => ?_⟩
  ·rw [List.length_take] at q
   refine ⟨by rw [List.length_take]; omega, by rw [List.length_take]; omega, ?_⟩
   rw [List.take_take, List.take_take, Nat.min_eq_left (by omega), Nat.min_eq_left (by omega)]
  ·have q1 : ¬ ((U.take 301).length : Int) > 300 := fun z => q ⟨c, z⟩
   rw [List.length_take] at q1
   have e1 : U.take 301 = U := List.take_of_length_le (by omega)
   have e2 : U.take most.toNat = U := List.take_of_length_le (by omega)
   rw [e1, e2]
   refine ⟨?_, Nat.le_refl _, List.take_length, ?_⟩
   ·rw [decide_eq_false (show ¬ most < (U.length : Int) by omega), decide_eq_false (show ¬ (U.length : Int) > 300 by omega)]
   ·split <;> omega
 ·rw [if_neg c]
  have e : (most + 1).toNat = most.toNat + 1 := by omega
  rw [e]
  refine ⟨fun q => by omega, fun _ => ⟨?_, ?_, ?_, ?_⟩⟩
  ·rw [List.length_take]
   by_cases q : most < (U.length : Int)
   ·rw [decide_eq_true q, decide_eq_true (by omega)]
   ·rw [decide_eq_false q, decide_eq_false (by omega)]
  ·rw [List.length_take, List.length_take]; omega
  ·rw [List.length_take, List.take_take, Nat.min_eq_left (by omega)]
   by_cases q : most.toNat ≤ U.length
   ·rw [Nat.min_eq_left q]
   ·rw [Nat.min_eq_right (by omega), List.take_length, List.take_of_length_le (by omega)]
  ·rw [List.length_take, List.length_take]
   split <;> omega
/-- What is told of both calls. -/
theorem told (r : Ru) (hs : r.a5.size ≤ 9223372036854775807) (b last most : Int) (hl : b ≤ last) : ∃ (fb rb : Bool) (e : Int) (L W : List Int) (more : Bool),
  (∀ (p : Rp) (w : World), Ok r p w → Calls Tryz.prog 16 #[.agg (agg r p)] w fun e w' => e = .returned (.bool fb) ∧ Below w.heap.size w w') ∧ trystref01_Right.f b = some rb ∧
  (∀ (p : Rp) (w : World), Ok r p w → Calls Tryz.prog 15 #[.agg (agg r p), .int .i64 b, .int .i64 last, .int .i64 most] w fun q W' => OutU W' L more e q ∧ Below w.heap.size w W') ∧
  (fb = false → e = 10 ∧ L = [] ∧ more = false) ∧ (fb = true → rb = false → e = 2 ∧ L = [] ∧ more = false) ∧ (fb = true → rb = true → most < 0 → e = 1 ∧ L = [] ∧ more = false) ∧
  (fb = true → rb = true → ¬ most < 0 → e = 0 ∧ L.length ≤ 17000000000000 ∧ Good most L W more ∧ ∀ (p : Rp) (w : World), Ok r p w → Calls Tryz.prog 18 #[.agg (agg r p), .int .i64 b, .int .i64 last, .int .i64 (k0 most + 1)] w fun q w' => Out w.heap.size w' W q ∧ Below w.heap.size w w') := by
 obtain ⟨rt, hrt⟩ := both r hs
 have hf := (hrt (r.a5.size + 200) (by omega)).2
 have h12 := (hrt (r.a5.size + 200) (by omega)).1
 have hr := Right.cRight b
 have hr1 := Right.fRight b
 obtain ⟨fb, hfb⟩ : ∃ fb, frmB r rt = fb := ⟨_, rfl⟩
 obtain ⟨rb, hrb⟩ : ∃ rb, (decide (86400 ≤ b) && decide (b < 315537984000)) = rb := ⟨_, rfl⟩
 have F : ∀ (p : Rp) (w : World), Ok r p w → Calls Tryz.prog 16 #[.agg (agg r p)] w fun e w' => e = .returned (.bool fb) ∧ Below w.heap.size w w' := fun p w ok => by
  have := reform r p _ rt w ok h12
  rwa [hfb] at this
 rw [hfb] at hf; rw [hrb] at hr hr1
 cases fb with
 | false =>
  exact ⟨false, rb, 10, [], [], false, F, hr1, fun p w ok => untilBad _ r p false rb b last most 10 w ok hf hr rfl (by omega), fun _ => ⟨rfl, rfl, rfl⟩, fun q => by simp at q, fun q => by simp at q, fun q => by simp at q⟩
 | true =>
  cases rb with
  | false =>
   exact ⟨true, false, 2, [], [], false, F, hr1, fun p w ok => untilBad _ r p true false b last most 2 w ok hf hr rfl (by omega), fun q => by simp at q, fun _ _ => ⟨rfl, rfl, rfl⟩, fun _ q => by simp at q, fun _ q => by simp at q⟩
  | true =>
   by_cases c : most < 0
   ·exact ⟨true, true, 1, [], [], false, F, hr1, fun p w ok => untilNeg _ r p true true b last most 0 w ok hf hr rfl c, fun q => by simp at q, fun _ q => by simp at q, fun _ _ _ => ⟨rfl, rfl, rfl⟩, fun _ _ q => absurd c q⟩
   ·simp only [Bool.and_eq_true, decide_eq_true_eq] at hrb
    obtain ⟨B, sf, sl, se, fit, hH⟩ := both_ r rt _ (by omega) hfb hf b hrb.1 hrb.2
    have h := hH.has
    have c0 := h.full.c0; have c1 := h.full.c1
    obtain ⟨rest, hE⟩ := ends h (endF r last) (timL r sf sl se fit (b % 86400)) 3652060 0 (wrap64 (r.a2 - 1)) (by omega) (by omega) (by omega)
    obtain ⟨u1, u2, _, _⟩ := each_up (by omega) h (endF r last) _ 0 (wrap64 (r.a2 - 1)) rest (by omega) (by omega) hE
    have u3 := each_top h (endF r last) _ 0 (wrap64 (r.a2 - 1)) rest hE
    have ln := up_len rest b 315537984000 u1 (fun x hx => ⟨u2 x hx, u3 x hx⟩) (by omega)
    have ha : allU b last rest = b :: rest := if_neg (by omega)
    have kb : 1 ≤ k0 most + 1 ∧ k0 most + 1 ≤ 1000 := by unfold k0; split <;> omega
    have hM := mean_each h (by omega) (endF r last) (k0 most + 1) kb.2 3652060 0 (wrap64 (r.a2 - 1)) [b] rest _ (by omega) (by omega) (by omega) (by rw [w64 (by omega) (by omega)]; simp) (by simp; omega) (by simp) (by simp; omega) hE 3652061 (by omega)
    have hdy : wrap64 (Int.tdiv b 86400) = b / 86400 := by rw [Int.tdiv_eq_ediv_of_nonneg (by omega), w64 (by omega) (by omega)]
    refine ⟨true, true, 0, (b :: rest).take most.toNat, ([b] ++ rest).take (k0 most + 1).toNat, decide (most < ((b :: rest).length : Int)), F, hr1, fun p w ok => ?_, fun q => by simp at q, fun _ q => by simp at q, fun _ _ q => absurd q c, fun _ _ _ => ⟨rfl, by rw [List.length_take, List.length_cons]; omega, good (b :: rest) most (by omega), fun p w ok => ?_⟩⟩
    ·have := until_ h hr p last most rest _ hE (.inl (by omega)) (by omega) w ok
     rwa [ha] at this
    ·refine means r p b last (k0 most + 1) (endF r last) (b / 86400) (secL r (b % 86400)) (ExM.dF sf se) (dL sl se) (timL r sf sl se fit (b % 86400)) (fun n => 0 ≤ n ∧ n ≤ 4000000) _ _ (by omega) (by omega) kb.2 (end_eq r last) hdy (secD h p) (fun n hn => ?_) (fun n hn _ => timD hH (by omega) p n hn.1 hn.2) h.tim_len ⟨by omega, by omega⟩ (fun n hn q => ?_) hM w ok
     ·obtain ⟨F', L', hS, e0, e1⟩ := spanD h (by omega) n hn.1 hn.2
      unfold ExM.dF dL
      by_cases z : se n = 0
      ·obtain ⟨rfl, rfl⟩ := e0 z
       rw [if_pos z, if_pos z]; exact hS p
      ·obtain ⟨rfl, rfl⟩ := e1 z
       rw [if_neg z, if_neg z]; exact hS p
     ·have z : se n = 0 := Decidable.not_not.1 fun e => q ((lt_iff h n).2 e)
      have := h.ok n z; have := h.full.f.i1; have := h.full.i2
      show 0 ≤ wrap64 (n + r.a1) ∧ wrap64 (n + r.a1) ≤ 4000000
      rw [w64 (x := n + r.a1) (by omega) (by omega)]; omega
def Tl16 : Bool × List (List Nat × List Nat) := (true, [([], []), ([0], [0]), ([1], [1]), ([2], [2]), ([3, 2], [2, 3]), ([4, 2], [2, 4]), ([2, 5], [2, 5]), ([6, 2], [6]), ([7], [7]), ([8, 7], [7, 8]), ([7], [7]), ([10, 7], [7, 10]), ([9, 11, 7, 7], [7, 9, 11]), ([7, 12], [7, 12]), ([13, 12, 0, 1, 2, 3, 4, 5, 6, 7, 8, 9, 10, 11, 12, 13], [13])])
def Bl16 : List Nat := [0, 1, 3, 7, 15, 31, 63, 127, 255, 511, 255, 1279, 4095, 8191, 16383]
theorem tabl16 : rtab .any (opsOf Tryz.f4 16) = Tl16 := by kernel_rfl
theorem bitsl16 : waitsOk Tl16.2 Bl16 = true := by kernel_rfl
set_option maxHeartbeats 8000000 in
set_option maxRecDepth 100000 in
theorem walk (r : Ru) (p : Rp) (b d most : Int) (w : World) (ok : Ok r p w) (hs : r.a5.size ≤ 9223372036854775807) (d0 : 0 ≤ d) (d1 : d ≤ 65535) :
  Calls Tryz.prog 4 #[.agg (agg r p), .int .i64 b, .int .u16 d, .int .i64 most] w fun e w' => e = .returned (.bool true) ∧ Below w.heap.size w w' := by
 obtain ⟨c, hc⟩ : ∃ c, Int.tmod d 2500 = c := ⟨_, rfl⟩
 have hce : d % 2500 = c := by rw [← hc, Int.tmod_eq_emod_of_nonneg d0]
 have cb : 0 ≤ c ∧ c < 2500 := by omega
 have T := Aside0.mk (told r hs b)
 have OK := Aside0.mk ok
 clear ok hs
 have HK := Aside0.mk (blk_new w (obj r p))
 have HB := Aside0.mk (below_alloc (Below.refl w.heap.size w) (obj r p))
 go_enter Tryz.func4, Tryz.ntmps4
 go_upto_region 1 with fail
 generalize w.alloc (obj r p) = w0 at HK HB ⊢
 go_wp2_with fail
 refine (awake w0).mono ?_
 rintro q w1 ⟨rfl, hb⟩
 replace HK := Aside0.mk (blk_below HK.out hb)
 replace HB := Aside0.mk (below_then HB.out HB.out.size hb)
 clear hb
 go_wp2_with ((with_reducible refine gate_ (.load 27 (.tmp 4)) rfl ?_); (try (refine gate_guard (by rfl) ?_; dsimp only)); refine Kd.event_run rfl (MatP.xR (.tmp 4) (w.heap.size) r p rfl rfl _ HK.out) ?_)
 refine (fewX r p w1).mono ?_
 rintro q w2 ⟨rfl, hb⟩
 replace HK := Aside0.mk (blk_below HK.out hb)
 replace HB := Aside0.mk (below_then HB.out HB.out.size hb)
 clear hb
 generalize RefW.few r.l11.length r.l8.length r.l9.length r.l10.length r.l12.length r.l13.length r.l14.length r.l15.length r.l16.length = fw
 cases fw with
 | false =>
  go_wp2_with fail
  refine (awake w2).mono ?_
  rintro q w3 ⟨rfl, hb⟩
  replace HK := Aside0.mk (blk_below HK.out hb)
  replace HB := Aside0.mk (below_then HB.out HB.out.size hb)
  clear hb
  go_wp2_with fail
  go_ret
  exact ⟨rfl, HB.out⟩
 | true =>
  have hg : wrap64 (86400 * c) = 86400 * c := w64 (by omega) (by omega)
  obtain ⟨last, hlast⟩ : ∃ last, wrap64 (b + 86400 * c) = last := ⟨_, rfl⟩
  by_cases g : b > 1125899906842624
  ·have g1 : decide (b > 1125899906842624) = true := decide_eq_true g
   clear g
   go_wp2_with fail
   go_ret
   exact ⟨rfl, HB.out⟩
  by_cases g' : b < -1125899906842624
  ·have g1 : decide (b > 1125899906842624) = false := decide_eq_false g
   have g2 : decide (b < -1125899906842624) = true := decide_eq_true g'
   clear g g'
   go_wp2_with fail
   go_ret
   exact ⟨rfl, HB.out⟩
  have g1 : decide (b > 1125899906842624) = false := decide_eq_false g
  have g2 : decide (b < -1125899906842624) = false := decide_eq_false g'
  have le : b ≤ last := by rw [← hlast, w64 (by omega) (by omega)]; omega
  obtain ⟨fb, rb, e, L, W, more, h1, h2, h3, h4, h5, h6, h7⟩ := T.out last most le
  have F := Aside0.mk h1; have HR := Aside0.mk h2; have HU := Aside0.mk h3; have H4 := Aside0.mk h4; have H5 := Aside0.mk h5; have H6 := Aside0.mk h6; have H7 := Aside0.mk h7
  clear g g' le h1 h2 h3 h4 h5 h6 h7 T hce
  go_wp2_with ((with_reducible refine gate_ (.load 27 (.tmp 4)) rfl ?_); (try (refine gate_guard (by rfl) ?_; dsimp only)); refine Kd.event_run rfl (MatP.xR (.tmp 4) (w.heap.size) r p rfl rfl _ HK.out) ?_)
  refine (perX r p w2 (OK.out.below HB.out)).mono ?_
  rintro q w3 ⟨rfl, hb⟩
  replace HK := Aside0.mk (blk_below HK.out hb)
  replace HB := Aside0.mk (below_then HB.out HB.out.size hb)
  clear hb
  generalize pd r = pv
  by_cases c_ : pv > 200
  ·have c1 : decide (pv > 200) = true := decide_eq_true c_
   clear c_
   go_wp2_with fail
   go_ret
   exact ⟨rfl, HB.out⟩
  have c1 : decide (pv > 200) = false := decide_eq_false c_
  clear c_
  go_wp2_with ((with_reducible refine gate_ (.load 27 (.tmp 4)) rfl ?_); (try (refine gate_guard (by rfl) ?_; dsimp only)); refine Kd.event_run rfl (MatP.xR (.tmp 4) (w.heap.size) r p rfl rfl _ HK.out) ?_)
  refine (HU.out p w3 (OK.out.below HB.out)).mono ?_
  rintro q w4 ⟨⟨A1, c1_, rfl, hC, hc⟩, hb⟩
  replace HK := Aside0.mk (blk_below HK.out hb)
  replace HB := Aside0.mk (below_then HB.out HB.out.size hb)
  have CL := Aside0.mk hC; have CCL := Aside0.mk hc
  clear hb hC hc HU
  go_wp2_with ((with_reducible refine gate_ (.load 27 (.tmp 4)) rfl ?_); (try (refine gate_guard (by rfl) ?_; dsimp only)); refine Kd.event_run rfl (MatP.xR (.tmp 4) (w.heap.size) r p rfl rfl _ HK.out) ?_)
  refine (F.out p w4 (OK.out.below HB.out)).mono ?_
  rintro q w5 ⟨rfl, hb⟩
  replace HK := Aside0.mk (blk_below HK.out hb)
  replace HB := Aside0.mk (below_then HB.out HB.out.size hb)
  replace CL := Aside0.mk (Kd.C_below CL.out hb)
  clear hb F
  cases fb with
  | false =>
   obtain ⟨rfl, rfl, rfl⟩ := H4.out (by simp)
   go_wp2_with fail
   go_ret
   exact ⟨rfl, HB.out⟩
  | true =>
   go_wp2_with fail
   refine (trystref01_Right.calls b rb _ HR.out).mono ?_
   rintro q w6 ⟨rfl, ⟨nd, rfl⟩⟩
   replace HK := Aside0.mk (blk_drewN HK.out nd)
   replace HB := Aside0.mk (pw_below_drewN HB.out nd)
   replace CL := Aside0.mk (Kd.C_drewN CL.out nd)
   generalize w5.drewN nd = w6 at HK HB CL ⊢
   cases rb with
   | false =>
    obtain ⟨rfl, rfl, rfl⟩ := H5.out (by simp) (by simp)
    go_wp2_with fail
    go_ret
    exact ⟨rfl, HB.out⟩
   | true =>
    by_cases m0 : most < 0
    ·have m1 : decide (most < 0) = true := decide_eq_true m0
     obtain ⟨rfl, rfl, rfl⟩ := H6.out (by simp) (by simp) (by omega)
     clear m0
     go_wp2_with fail
     go_ret
     exact ⟨rfl, HB.out⟩
    have m1 : decide (most < 0) = false := decide_eq_false m0
    obtain ⟨rfl, hlen, hgood, hmean⟩ := H7.out (by simp) (by simp) (by omega)
    have LN := Aside0.mk hlen; have GD := Aside0.mk hgood; have MN := Aside0.mk hmean
    clear hlen hgood hmean H4 H5 H6 H7 HR
    obtain ⟨kk, hkk⟩ : ∃ kk, k0 most = kk := ⟨_, rfl⟩
    have kb : 0 ≤ kk ∧ kk ≤ 300 := by rw [← hkk]; unfold k0; split <;> omega
    have KE := Aside0.mk hkk
    have f1 : ∀ k k' : IntKind, Builtin.min2 (.int k most) (.int k' 300) = pure (.int k kk) := fun k k' => by rw [min2_int, ← KE.out]; rfl
    have s1 : wrap64 (kk + 1) = kk + 1 := w64 (by omega) (by omega)
    rw [hkk] at MN
    clear m0 hkk
    go_wp2_with ((with_reducible refine gate_ (.load 27 (.tmp 4)) rfl ?_); (try (refine gate_guard (by rfl) ?_; dsimp only)); refine Kd.event_run rfl (MatP.xR (.tmp 4) (w.heap.size) r p rfl rfl _ HK.out) ?_)
    refine (MN.out p w6 (OK.out.below HB.out)).mono ?_
    rintro q w7 ⟨⟨AW, cW, rfl, hCW, hcW, _⟩, hb⟩
    replace HK := Aside0.mk (blk_below HK.out hb)
    replace HB := Aside0.mk (below_then HB.out HB.out.size hb)
    replace CL := Aside0.mk (Kd.C_below CL.out hb)
    have CW := Aside0.mk hCW; have CCW := Aside0.mk hcW
    clear hb hCW hcW MN f1 s1
    by_cases x : most > 300 ∧ (W.length : Int) > 300
    ·obtain ⟨x1, x2⟩ := x
     have y1 : decide (most > 300) = true := decide_eq_true x1
     have y2 : decide ((W.length : Int) > 300) = true := decide_eq_true x2
     obtain ⟨z1, z2, z3⟩ := GD.out.1 (by omega) (by omega)
     have y3 : decide ((L.length : Int) ≥ 300) = true := decide_eq_true (by omega)
     have Z3 := Aside0.mk z3
     have b1 := CCL.out
     have b2 := CCW.out
     have b3 : 300 ≤ c1_ := by omega
     have b4 : 300 ≤ cW := by omega
     have b5 : (300 : Int) ≤ (c1_ : Int) := by omega
     have b6 : (300 : Int) ≤ (cW : Int) := by omega
     have C1 := Aside0.mk (show (Kd.int .i64).C w7 A1 300 (L.take 300) by have := Kd.C_take CL.out z1; rwa [List.length_take, Nat.min_eq_left z1] at this)
     have C2 := Aside0.mk (show (Kd.int .i64).C w7 AW 300 (L.take 300) by have := Kd.C_take CW.out z2; rwa [List.length_take, Nat.min_eq_left z2, ← Z3.out] at this)
     clear x1 x2 z3
     go_upto_region 16 with fail
     have HR := Aside0.mk (below_drew1 (Below.refl w7.heap.size w7))
     refine start_ (n := 15) (S := fun w' => (Kd.int .i64).C w' A1 300 (L.take 300) ∧ (Kd.int .i64).C w' AW 300 (L.take 300)) (ds := []) (tt 15 0) (by kernel_rfl) rfl rfl ⟨Kd.C_drew C1.out, Kd.C_drew C2.out⟩ (fun hHeld => ?_)
     refine with_tabW tabl16 bitsl16 (fun HT_ HW_ => ?_)
     generalize w7.drew = wd_ at HR hHeld ⊢
     refine pu 0 (some 108) (tt 15 1) HT_ ?_
     refine pu 1 (some 109) (tt 15 2) HT_ ?_
     refine pu 2 (some 110) (tt 15 3) HT_ ?_
     refine pu 3 (some 111) (tt 15 4) HT_ ?_
     refine pu 4 (some 112) (tt 15 5) HT_ ?_
     refine pu 5 (some 113) (tt 15 6) HT_ ?_
     refine pu 6 (some 114) (tt 15 7) HT_ ?_
     refine pu 7 (some 115) (tt 15 8) HT_ ?_
     refine pu 8 (some 116) (tt 15 9) HT_ ?_
     refine pu 9 (some 117) (tt 15 10) HT_ ?_
     refine pu 10 (some 118) (tt 15 11) HT_ ?_
     refine pu 11 (some 119) (tt 15 12) HT_ ?_
     refine one_ (i := 12) (N := some 120) (tt 15 13) rfl rfl (one_of HT_.out (by kernel_rfl)) (by decide) (fun K hK => ?_)
     refine goes_ Tryz.func19 (by kernel_rfl) rfl #[.slice A1 300 c1_, .slice AW 300 cW] (by rfl) rfl rfl (by (try simp only [List.map_toArray, List.map_cons, List.map_nil]); first | done | rfl) ?_
     refine (sameN 300 A1 c1_ AW cW (L.take 300) _ hHeld.1 b3 hHeld.2 b4 (by omega)).mono ?_
     rintro q wq3 ⟨rfl, ⟨nd, rfl⟩⟩
     refine ⟨_, rfl, ?_⟩
     replace HR := Aside0.mk (pw_below_drewN HR.out nd)
     refine hK.out _ _ ⟨Kd.C_drewN hHeld.1 nd, Kd.C_drewN hHeld.2 nd⟩ (fun hHeld => ?_)
     clear hK K
     refine norm_ (a' := ?_) ?_ ?_
     rotate_left
     ·show Act.put _ (some 120) _ = _
      simp only [Act.put, sA, sB, sC, i64_w, i32_w]
      rfl
     refine pu 13 (some 121) (tt 15 14) HT_ ?_
     refine pu 14 (some 8) (tt 15 15) HT_ ?_
     refine done_ (done_of HT_.out (by kernel_rfl)) ?_
     clear HT_ HW_
     replace HB := Aside0.mk (below_then HB.out HB.out.size HR.out)
     clear hHeld HR
     go_wp2_with fail
     go_ret
     exact ⟨rfl, HB.out⟩
    ·obtain ⟨z0, z1, z2, z3⟩ := GD.out.2 x
     rw [KE.out] at z0 z3
     have Z3 := Aside0.mk z3
     have f3 : ∀ k k' : IntKind, Builtin.min2 (.int k kk) (.int k' (W.length : Int)) = pure (.int k (L.length : Int)) := fun k k' => by rw [min2_int, Z3.out]
     have b1 := CCL.out
     have b2 := CCW.out
     have C2 := Aside0.mk (show (Kd.int .i64).C w7 AW L.length L by have := Kd.C_take CW.out z1; rwa [z2] at this)
     have hx : decide (most > 300) = false ∨ decide ((W.length : Int) > 300) = false := by
      by_cases q : most > 300
      ·exact .inr (decide_eq_false fun q' => x ⟨q, q'⟩)
      ·exact .inl (decide_eq_false q)
     obtain ⟨t, ht⟩ : ∃ t, decide ((W.length : Int) > kk) = t := ⟨_, rfl⟩
     rw [ht] at z0
     subst z0
     have b3 : L.length ≤ cW := by omega
     clear x z2 z3
     by_cases q : most > 300
     ·have y1 : decide (most > 300) = true := decide_eq_true q
      have y2 : decide ((W.length : Int) > 300) = false := hx.resolve_left (by rw [y1]; simp)
      clear q hx
      cases more
      all_goals
       go_wp2_with fail
       refine (sameN L.length A1 c1_ AW cW L _ CL.out b1 C2.out b3 LN.out).mono ?_
       rintro q w8 ⟨rfl, ⟨nd, rfl⟩⟩
       replace HB := Aside0.mk (pw_below_drewN HB.out nd)
       go_wp2_with fail
       go_ret
       exact ⟨rfl, HB.out⟩
     ·have y1 : decide (most > 300) = false := decide_eq_false q
      clear q hx
      cases more
      all_goals
       go_wp2_with fail
       refine (sameN L.length A1 c1_ AW cW L _ CL.out b1 C2.out b3 LN.out).mono ?_
       rintro q w8 ⟨rfl, ⟨nd, rfl⟩⟩
       replace HB := Aside0.mk (pw_below_drewN HB.out nd)
       go_wp2_with fail
       go_ret
       exact ⟨rfl, HB.out⟩
end ExpandUntilW
theorem ExpandUntil_calls (cs : Array Value) (x : OpRule.V) (b d most : Int) (w : World) (hK : OpRule.d.K w x cs.toList) (hP : OpRule.Ph x) (_ : (Lit.int .i64 b).wf = true) (ha : (Lit.int .u16 d).wf = true) (_ : (Lit.int .i64 most).wf = true) : Calls Tryz.prog 4 #[.agg cs, .int .i64 b, .int .u16 d, .int .i64 most] w fun e w' => e = .returned (.bool true) ∧ Below w.heap.size w w' := by
 obtain ⟨p, hc, ok⟩ := OpRule.form hK
 obtain rfl := Array.toList_inj.1 hc
 have h16 : 0 ≤ d ∧ d ≤ 65535 := by simp [Lit.wf, IntKind.min, IntKind.max, IntKind.signed, IntKind.bits] at ha; omega
 exact ExpandUntilW.walk (OpRule.ru x) p b d most w ok (by have h : x.2.2.2.1.2.2.size ≤ maxLen := hP; unfold maxLen at h; show x.2.2.2.1.2.2.size ≤ _; omega) h16.1 h16.2
end Go.Proofs.YtfdcldjoncednaaGreat.Pure
