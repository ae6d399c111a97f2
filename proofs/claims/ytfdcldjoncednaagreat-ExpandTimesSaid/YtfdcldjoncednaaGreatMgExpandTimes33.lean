/- Texts of this claim, merged: Op, OpRule, PureExpandTimes. -/
import Derived.Test.YtfdcldjoncednaaGreatMgExpandTimes7
import Derived.Deep.Slices
import Derived.ChangeSame
import Derived.Test.YtfdcldjoncednaaGreatMgExpandTimes26
import Derived.Test.YtfdcldjoncednaaGreatMgExpandTimes31
import Derived.Test.YtfdcldjoncednaaGreatMgExpandTimes32
/- What an argument's cells read as, kind by kind: numbers, bools, texts, structs, slices of whatever of these. -/
namespace Go.Proofs.YtfdcldjoncednaaGreat.Op
open Go.ChangeShapes Go.WideShapes Go.RowKit Go.Deep Go.Proofs.YtfdcldjoncednaaGreatW.PrintWords Go.Proofs.YtfdcldjoncednaaGreatW.PrintLast
set_option linter.unusedVariables false
set_option linter.unusedSimpArgs false
/-- Whatever reads as type t reads as kind d, and φ holds of what is read. -/
def Opk {α : Type} (P : Program) (t : TypeId) (d : Kd α) (φ : α → Prop) : Prop :=
 P.cellsOf t = d.sz ∧ ∀ {H : Type} {enc : TypeId × Value → H} {w : World} {base : Nat} {spare : Nat → Bool} {held : Bool} {fuel : Nat} {cs : List Value} {x : DataW H × List MemPlace}, DataW.trod enc P w base spare held fuel t cs = some x → ∃ z : α, d.K w z cs ∧ φ z
theorem Opk.int {P : Program} {t : TypeId} {k : IntKind} (ht : P.underlying t = some (.int k)) (hC : P.cellsOf t = 1) : Opk P t (Kd.int k) (fun n => (Lit.int k n).wf = true) :=
 ⟨hC, fun h => by obtain ⟨n, rfl, _, hw⟩ := DataW.trod_int ht h; exact ⟨n, rfl, hw⟩⟩
theorem Opk.bool {P : Program} {t : TypeId} (ht : P.underlying t = some .bool) (hC : P.cellsOf t = 1) : Opk P t Kd.bool (fun _ => True) :=
 ⟨hC, fun h => by obtain ⟨b, rfl, _⟩ := DataW.trod_bool ht h; exact ⟨b, rfl, trivial⟩⟩
theorem Opk.string {P : Program} {t : TypeId} (ht : P.underlying t = some .string) (hC : P.cellsOf t = 1) : Opk P t Kd.string (fun s => s.size ≤ maxLen) :=
 ⟨hC, fun h => by obtain ⟨s, rfl, _, hs⟩ := DataW.trod_string ht h; exact ⟨s, rfl, hs⟩⟩
theorem C_of {α : Type} (d : Kd α) (w : World) (a : Addr) (len : Nat) (hlen : len ≤ 9223372036854775807) (xs : Nat → α) (hc : ∀ i, i < len → ∃ cs, d.K w (xs i) cs ∧ ∀ j u, cs[j]? = some u → w.cell? (a.add (i * d.sz + j)) = some u) :
  Kd.C d w (some a) len ((List.range len).map xs) := by
 refine ⟨by simp, hlen, fun _ => ⟨a, rfl, fun j p hp => ?_⟩⟩
 rw [List.getElem?_map] at hp
 by_cases h : j < len
 ·rw [List.getElem?_range h] at hp
  obtain rfl := Option.some.inj hp
  obtain ⟨cs, hK, hcs⟩ := hc j h
  exact ⟨cs, d.K_len hK, hK, hcs⟩
 ·rw [List.getElem?_eq_none (by simp; omega)] at hp
  cases hp
theorem C_nil {α : Type} (d : Kd α) (w : World) (A : Option Addr) : Kd.C d w A 0 ([] : List α) := ⟨rfl, by omega, fun h => by omega⟩
theorem Opk.slice {α : Type} [Inhabited α] {P : Program} {t e : TypeId} {d : Kd α} {φ : α → Prop} (ht : P.underlying t = some (.slice e)) (hC : P.cellsOf t = 1) (he : Opk P e d φ) : Opk P t (Kd.slice e d) (fun l => l.length ≤ maxLen ∧ ∀ x ∈ l, φ x) :=
 ⟨hC, fun {H enc w base spare held fuel cs x} h => by
  rcases open_slice ht h with ⟨rfl, _⟩ | ⟨a, len, cap, m, n, D, Pl, rfl, _, hl, hm, hmm, _, hi⟩
  ·exact ⟨[], ⟨none, 0, rfl, Nat.le_refl _, C_nil _ _ _⟩, by simp, fun x hx => by cases hx⟩
  ·obtain ⟨hsz, hop⟩ := he
   have each : ∀ i, i < len → ∃ z : α, φ z ∧ ∃ cs', d.K w z cs' ∧ ∀ j u, cs'[j]? = some u → w.cell? (a.add (i * d.sz + j)) = some u := by
    intro i hil
    obtain ⟨cs', hc, ht'⟩ := hi i (by rw [hmm]; split <;> omega)
    obtain ⟨z, hz, hφ⟩ := hop ht'
    rw [hsz] at hc
    obtain ⟨_, hcl, hat⟩ := World.cells?_some hc
    refine ⟨z, hφ, cs', hz, fun j u hu => ?_⟩
    have hj : j < d.sz := by rw [← hcl]; exact (List.getElem?_eq_some_iff.1 hu).1
    rw [← Go.Deep.add_add, hat j hj, hu]
   obtain ⟨xs, hxs⟩ := choose_lt each
   have hlen : len ≤ 9223372036854775807 := by unfold maxLen at hm; omega
   have hC0 := C_of d w a len hlen xs (fun i hi' => (hxs i hi').2)
   have hl0 : ((List.range len).map xs).length = len := by simp
   refine ⟨(List.range len).map xs, ⟨some a, cap, by rw [hl0], by rw [hl0]; exact hl, by rw [hl0]; exact hC0⟩, by rw [hl0]; exact Nat.le_trans hl hm, fun x hx => ?_⟩
   obtain ⟨i, hi', rfl⟩ := List.mem_map.1 hx
   exact (hxs i (List.mem_range.1 hi')).1⟩
/-- A struct's fields from a place on. -/
structure Fl {α : Type} (P : Program) (fs : List Field) (o : Nat) (d : Kd α) (φ : α → Prop) : Prop where
 get : ∀ {H : Type} {enc : TypeId × Value → H} {w : World} {base : Nat} {spare : Nat → Bool} {held : Bool} {cs : List Value}, cs.length = o + d.sz → (∀ f ∈ fs, ∃ (n : Nat) (y : DataW H × List MemPlace), DataW.trod enc P w base spare held n f.type ((cs.drop f.offset).take (P.cellsOf f.type)) = some y) → ∃ z : α, d.K w z (cs.drop o) ∧ φ z
theorem Fl.last {α : Type} {P : Program} {f : Field} {o : Nat} {d : Kd α} {φ : α → Prop} (ho : f.offset = o) (hf : Opk P f.type d φ) : Fl P [f] o d φ := by
 constructor
 intro H enc w base spare held cs hl h
 obtain ⟨n, y, hy⟩ := h f (by simp)
 rw [ho, hf.1] at hy
 have e : (cs.drop o).take d.sz = cs.drop o := List.take_of_length_le (by rw [List.length_drop]; omega)
 rw [e] at hy
 exact hf.2 hy
theorem Fl.cons {α β : Type} {P : Program} {f : Field} {r : List Field} {o : Nat} {a : Kd α} {b : Kd β} {φ : α → Prop} {ψ : β → Prop} (ho : f.offset = o) (hf : Opk P f.type a φ) (hr : Fl P r (o + a.sz) b ψ) : Fl P (f :: r) o (Kd.pair a b) (fun x => φ x.1 ∧ ψ x.2) := by
 constructor
 intro H enc w base spare held cs hl h
 obtain ⟨n, y, hy⟩ := h f (by simp)
 rw [ho, hf.1] at hy
 obtain ⟨z0, k0, p0⟩ := hf.2 hy
 have hl' : cs.length = (o + a.sz) + b.sz := by rw [hl]; show o + (a.sz + b.sz) = _; omega
 obtain ⟨z1, k1, p1⟩ := hr.get hl' (fun g hg => h g (by simp [hg]))
 refine ⟨(z0, z1), ⟨(cs.drop o).take a.sz, cs.drop (o + a.sz), ?_, k0, k1⟩, p0, p1⟩
 rw [← List.drop_drop, List.take_append_drop]
theorem Opk.struct {α : Type} {P : Program} {t : TypeId} {fs : Array Field} {d : Kd α} {φ : α → Prop} (ht : P.underlying t = some (.struct fs)) (hC : P.cellsOf t = d.sz) (hf : Fl P fs.toList 0 d φ) : Opk P t d φ :=
 ⟨hC, fun {H enc w base spare held fuel cs x} h => by
  obtain ⟨xs, n, _, _, hlen, hxl, hg⟩ := DataW.trod_struct ht h
  obtain ⟨z, k, p⟩ := hf.get (w := w) (cs := cs) (by rw [hlen, hC]; omega) (fun f hm => by
   obtain ⟨i, hi, rfl⟩ := List.getElem_of_mem hm
   have e := hg i fs.toList[i] (by simp)
   have hx : i < xs.length := by rw [hxl]; simpa using hi
   rw [List.getElem?_eq_getElem hx] at e
   exact ⟨n, _, e⟩)
  exact ⟨z, by simpa using k, p⟩⟩
theorem Opk.iso {α β : Type} {P : Program} {t : TypeId} {d : Kd α} {φ : α → Prop} (f : β → α) (g : α → β) (hfg : ∀ x, f (g x) = x) (h : Opk P t d φ) : Opk P t (Kd.iso d f) (fun x => φ (f x)) :=
 ⟨h.1, fun hx => by
  obtain ⟨z, k, p⟩ := h.2 hx
  exact ⟨g z, by show d.K _ (f (g z)) _; rw [hfg]; exact k, by show φ (f (g z)); rw [hfg]; exact p⟩⟩
end Go.Proofs.YtfdcldjoncednaaGreat.Op
/- What an argument of rules reads as. -/
namespace Go.Proofs.YtfdcldjoncednaaGreat.OpRule
open Go.ChangeShapes Go.WideShapes Go.RowKit Go.Deep Go.Proofs.YtfdcldjoncednaaGreatW.PrintWords Go.Proofs.YtfdcldjoncednaaGreatW.PrintLast Go.Proofs.YtfdcldjoncednaaGreat.M Go.Proofs.YtfdcldjoncednaaGreat.Op Go.Proofs.YtfdcldjoncednaaGreat.Ru
set_option linter.unusedVariables false
set_option linter.unusedSimpArgs false
instance : Inhabited S80 := ⟨z80⟩
def PhW (x : S80) : Prop := (Lit.int .i64 x.f0).wf = true ∧ (Lit.int .i64 x.f1).wf = true
set_option maxRecDepth 100000 in
theorem opW : Opk Tryz.prog 80 k80 PhW :=
 Opk.iso (d := Kd.pair (Kd.int .i64) (Kd.int .i64)) (φ := fun x => (Lit.int .i64 x.1).wf = true ∧ (Lit.int .i64 x.2).wf = true) (fun x : S80 => (x.f0, x.f1)) (fun x : Int × Int => (⟨x.1, x.2⟩ : S80)) (fun _ => rfl) (Opk.struct (P := Tryz.prog) Tryz.underlying80 (by kernel_rfl)
  (Fl.cons rfl (Opk.int Tryz.underlying3 (by kernel_rfl)) (Fl.last rfl (Opk.int Tryz.underlying3 (by kernel_rfl)))))
abbrev W64 (n : Int) : Prop := (Lit.int .i64 n).wf = true
set_option maxRecDepth 100000 in
theorem opT : Opk Tryz.prog 23 (Kd.pair (Kd.int .i64) (Kd.pair (Kd.int .i64) Kd.string)) (fun x => W64 x.1 ∧ W64 x.2.1 ∧ x.2.2.size ≤ maxLen) :=
 Opk.struct (P := Tryz.prog) Tryz.underlying23 (by kernel_rfl) (Fl.cons rfl (Opk.int Tryz.underlying3 (by kernel_rfl)) (Fl.cons rfl (Opk.int Tryz.underlying2 (by kernel_rfl)) (Fl.last rfl (Opk.string Tryz.underlying9 (by kernel_rfl)))))
abbrev LI : Kd (List Int) := Kd.slice 3 (Kd.int .i64)
abbrev LW : Kd (List S80) := Kd.slice 80 k80
set_option maxRecDepth 100000 in
theorem opI : Opk Tryz.prog 24 LI (fun l => l.length ≤ maxLen ∧ ∀ x ∈ l, W64 x) := Opk.slice Tryz.underlying24 (by kernel_rfl) (Opk.int Tryz.underlying3 (by kernel_rfl))
set_option maxRecDepth 100000 in
theorem opD : Opk Tryz.prog 25 LW (fun l => l.length ≤ maxLen ∧ ∀ x ∈ l, PhW x) := Opk.slice Tryz.underlying25 (by kernel_rfl) opW
abbrev d := Kd.pair (Kd.int .i64) (Kd.pair (Kd.int .i64) (Kd.pair (Kd.int .i64) (Kd.pair (Kd.pair (Kd.int .i64) (Kd.pair (Kd.int .i64) Kd.string)) (Kd.pair (Kd.bool) (Kd.pair (Kd.int .i64) (Kd.pair (LI) (Kd.pair (LI) (Kd.pair (LI) (Kd.pair (LW) (Kd.pair (LI) (Kd.pair (LI) (Kd.pair (LI) (Kd.pair (LI) (LI))))))))))))))
abbrev V := Int × Int × Int × (Int × Int × ByteArray) × Bool × Int × List Int × List Int × List Int × List S80 × List Int × List Int × List Int × List Int × List Int
/-- What is asked of a rule that came in: its end's zone is no longer than a text may be. -/
def Ph (x : V) : Prop := x.2.2.2.1.2.2.size ≤ maxLen
set_option maxRecDepth 100000 in
theorem op : Opk Tryz.prog 27 d Ph := by
 have h : ∃ φ, (∀ x : V, φ x → Ph x) ∧ Opk Tryz.prog 27 d φ := ⟨_, fun x hx => hx.2.2.2.1.2.2, Opk.struct (P := Tryz.prog) Tryz.underlying27 (by kernel_rfl)
  (Fl.cons rfl (Opk.int Tryz.underlying3 (by kernel_rfl)) (Fl.cons rfl (Opk.int Tryz.underlying3 (by kernel_rfl)) (Fl.cons rfl (Opk.int Tryz.underlying3 (by kernel_rfl)) (Fl.cons rfl (opT) (Fl.cons rfl (Opk.bool Tryz.underlying4 (by kernel_rfl)) (Fl.cons rfl (Opk.int Tryz.underlying3 (by kernel_rfl)) (Fl.cons rfl (opI) (Fl.cons rfl (opI) (Fl.cons rfl (opI) (Fl.cons rfl (opD) (Fl.cons rfl (opI) (Fl.cons rfl (opI) (Fl.cons rfl (opI) (Fl.cons rfl (opI) (Fl.last rfl (opI))))))))))))))))⟩
 obtain ⟨φ, hφ, h1, h2⟩ := h
 exact ⟨h1, fun hx => by obtain ⟨z, k, q⟩ := h2 hx; exact ⟨z, k, hφ z q⟩⟩
def zero : Value := .agg #[.int .i64 0, .int .i64 0, .int .i64 0, .int .i64 0, .int .i64 0, .string ⟨#[]⟩, .bool false, .int .i64 0, .slice none 0 0, .slice none 0 0, .slice none 0 0, .slice none 0 0, .slice none 0 0, .slice none 0 0, .slice none 0 0, .slice none 0 0, .slice none 0 0]
def ru (x : V) : Ru := ⟨x.1, x.2.1, x.2.2.1, x.2.2.2.1.1, x.2.2.2.1.2.1, x.2.2.2.1.2.2, x.2.2.2.2.1, x.2.2.2.2.2.1, x.2.2.2.2.2.2.1, x.2.2.2.2.2.2.2.1, x.2.2.2.2.2.2.2.2.1, x.2.2.2.2.2.2.2.2.2.1, x.2.2.2.2.2.2.2.2.2.2.1, x.2.2.2.2.2.2.2.2.2.2.2.1, x.2.2.2.2.2.2.2.2.2.2.2.2.1, x.2.2.2.2.2.2.2.2.2.2.2.2.2.1, x.2.2.2.2.2.2.2.2.2.2.2.2.2.2⟩
theorem form {w : World} {x : V} {cs : List Value} (h : d.K w x cs) : ∃ p : Rp, cs = (agg (ru x) p).toList ∧ Ok (ru x) p w := by
 obtain ⟨x0, x1, x2, ⟨x3, x4, x5⟩, x6, x7, x8, x9, x10, x11, x12, x13, x14, x15, x16⟩ := x
 obtain ⟨a0, b0, rfl, e0, a1, b1, rfl, e1, a2, b2, rfl, e2, a3, b3, rfl, ⟨a4, b4, rfl, e4, a5, b5, rfl, e5, e6⟩, a6, b6, rfl, e7, a7, b7, rfl, e8, a8, b8, rfl, e9, a9, b9, rfl, e10, a10, b10, rfl, e11, a11, b11, rfl, e12, a12, b12, rfl, e13, a13, b13, rfl, e14, a14, b14, rfl, e15, a15, b15, rfl, e16, e17⟩ := h
 change _ = [_] at e0 e1 e2 e4 e5 e6 e7 e8
 subst e0 e1 e2 e4 e5 e6 e7 e8
 obtain ⟨A8, c8, rfl, d8, h8⟩ := e9
 obtain ⟨A9, c9, rfl, d9, h9⟩ := e10
 obtain ⟨A10, c10, rfl, d10, h10⟩ := e11
 obtain ⟨A11, c11, rfl, d11, h11⟩ := e12
 obtain ⟨A12, c12, rfl, d12, h12⟩ := e13
 obtain ⟨A13, c13, rfl, d13, h13⟩ := e14
 obtain ⟨A14, c14, rfl, d14, h14⟩ := e15
 obtain ⟨A15, c15, rfl, d15, h15⟩ := e16
 obtain ⟨A16, c16, rfl, d16, h16⟩ := e17
 exact ⟨⟨A8, c8, A9, c9, A10, c10, A11, c11, A12, c12, A13, c13, A14, c14, A15, c15, A16, c16⟩, rfl, ⟨h8, d8, h9, d9, h10, d10, h11, d11, h12, d12, h13, d13, h14, d14, h15, d15, h16, d16⟩⟩
end Go.Proofs.YtfdcldjoncednaaGreat.OpRule
/- A period's times are what the document says: with no condition. (Written by gen_lawtim.py.) -/
namespace Go.Proofs.YtfdcldjoncednaaGreat.Pure
open Go.RowKit Go.Proofs.YtfdcldjoncednaaGreatW.PrintWords Go.Proofs.YtfdcldjoncednaaGreatW.PrintLast Go.Proofs.YtfdcldjoncednaaGreat.M Go.Proofs.YtfdcldjoncednaaGreat.Cal Go.Proofs.YtfdcldjoncednaaGreat.FunA Go.Proofs.YtfdcldjoncednaaGreat.Ru Go.Proofs.YtfdcldjoncednaaGreat.MatP Go.Proofs.YtfdcldjoncednaaGreat.MatG Go.Proofs.YtfdcldjoncednaaGreat.RecG Go.Proofs.YtfdcldjoncednaaGreat.RefF Go.Proofs.YtfdcldjoncednaaGreat.ExD Go.Proofs.YtfdcldjoncednaaGreat.ExE Go.Proofs.YtfdcldjoncednaaGreat.ExI Go.Proofs.YtfdcldjoncednaaGreat.PureE Go.Proofs.YtfdcldjoncednaaGreat.ExB Go.Proofs.YtfdcldjoncednaaGreat.ExL Go.Proofs.YtfdcldjoncednaaGreat.RefM Go.Proofs.YtfdcldjoncednaaGreat.ExV Go.Proofs.YtfdcldjoncednaaGreat.ExW
set_option linter.unusedVariables false
set_option linter.unusedSimpArgs false
namespace ExpandTimesW
theorem reform (r : Ru) (p : Rp) (k : Nat) (rt : Bool) (w : World) (ok : Ok r p w) (h : trystref12_RightTime.f k r.a3 r.a4 r.a5 = some rt) :
  Calls Tryz.prog 16 #[.agg (agg r p)] w fun e w' => e = .returned (.bool (frmB r rt)) ∧ Below w.heap.size w w' :=
 RefF.walk r p k rt (oth r) w ok h rfl (fun i hi => rfl)
/-- Two equal lists are alike. -/
theorem same (l : List Int) (hl : l.length ≤ 17000000000000) : ∀ (j i : Nat), j + i = l.length → trystlaw15_Same.l0 (j + 1) l l (l.length : Int) (i : Int) = some true := by
 intro j
 induction j with
 | zero => intro i h; simp only [trystlaw15_Same.l0]; rw [if_neg (by omega)]
 | succ j ih =>
  intro i h
  rw [trystlaw15_Same.l0, if_pos (by omega), if_pos (by omega), if_pos (by omega), if_pos (by omega), if_pos rfl, w64 (by omega) (by omega), show (i : Int) + 1 = ((i + 1 : Nat) : Int) by omega]
  exact ih (i + 1) (by omega)
theorem same_ (l : List Int) (hl : l.length ≤ 17000000000000) : trystlaw15_Same.f (l.length + 1) l l = some true := by
 unfold trystlaw15_Same.f
 rw [if_pos rfl]
 exact same l hl l.length 0 (by omega)
/-- What is told of the call. -/
theorem told (r : Ru) (hs : r.a5.size ≤ 9223372036854775807) (b n : Int) : ∃ (fb rb : Bool) (e : Int) (L : List Int),
  (∀ (p : Rp) (w : World), Ok r p w → Calls Tryz.prog 16 #[.agg (agg r p)] w fun e w' => e = .returned (.bool fb) ∧ Below w.heap.size w w') ∧ trystref01_Right.f b = some rb ∧
  (∀ (p : Rp) (w : World), Ok r p w → Calls Tryz.prog 20 #[.agg (agg r p), .int .i64 b, .int .i64 n] w fun q W' => OutT W' L e q ∧ Below w.heap.size w W') ∧
  (fb = false → e = 10 ∧ L = []) ∧ (fb = true → rb = false → e = 2 ∧ L = []) ∧ (fb = true → rb = true → e = 0 ∧ L.length ≤ 17000000000000 ∧ ((n > 4000000 ∨ n < 0) → L = []) ∧ (¬ n > 4000000 → ¬ n < 0 → ∃ D, ∀ p, SecD r p b D ∧ TimD r p b n D L)) := by
 obtain ⟨rt, hrt⟩ := both r hs
 have hf := (hrt (r.a5.size + 200) (by omega)).2
 have h12 := (hrt (r.a5.size + 200) (by omega)).1
 have hr := Right.cRight b
 have hr1 := Right.fRight b
 obtain ⟨fb, hfb⟩ : ∃ fb, frmB r rt = fb := ⟨_, rfl⟩
 obtain ⟨rb, hrb⟩ : ∃ rb, (decide (86400 ≤ b) && decide (b < 315537984000)) = rb := ⟨_, rfl⟩
 have F : ∀ (p : Rp) (w : World), Ok r p w → Calls Tryz.prog 16 #[.agg (agg r p)] w fun e w' => e = .returned (.bool fb) ∧ Below w.heap.size w w' := fun p w ok => by
  have := reform r p _ rt w ok h12
  rwa [hfb] at this
 rw [hfb] at hf; rw [hrb] at hr hr1
 cases fb with
 | false => exact ⟨false, rb, 10, [], F, hr1, fun p w ok => times_ _ r p false rb b n 10 [] w ok hf hr rfl (fun q => by omega) (fun _ => rfl), fun _ => ⟨rfl, rfl⟩, fun q => by simp at q, fun q => by simp at q⟩
 | true =>
  cases rb with
  | false => exact ⟨true, false, 2, [], F, hr1, fun p w ok => times_ _ r p true false b n 2 [] w ok hf hr rfl (fun q => by omega) (fun _ => rfl), fun q => by simp at q, fun _ _ => ⟨rfl, rfl⟩, fun _ q => by simp at q⟩
  | true =>
   simp only [Bool.and_eq_true, decide_eq_true_eq] at hrb
   obtain ⟨B, sf, sl, se, fit, hH⟩ := both_ r rt _ (by omega) hfb hf b hrb.1 hrb.2
   refine ⟨true, true, 0, timL r sf sl se fit (b % 86400) n, F, hr1, fun p w ok => times_ _ r p true true b n 0 _ w ok hf hr rfl (fun _ => hH.has.tim p n) (fun q => absurd rfl q), fun q => by simp at q, fun _ q => by simp at q, fun _ _ => ⟨rfl, hH.has.tim_len n, fun q => ?_, fun q1 q2 => ⟨_, fun p => ⟨secD hH.has p, timD hH (by omega) p n (by omega) (by omega)⟩⟩⟩⟩
   unfold timL
   by_cases c : n < 0
   ·rw [if_pos c]
   ·rw [if_neg c]
    split
    ·rfl
    ·rw [if_pos (fun e => by have := hH.has.ok n e; omega)]
def Tl12 : Bool × List (List Nat × List Nat) := (true, [([], []), ([0], [0]), ([1], [1]), ([2], [2]), ([2], [2]), ([2], [2]), ([2], [2]), ([2], [2]), ([2], [2]), ([7, 8, 2, 2], [2, 7, 8]), ([4, 5, 6, 9, 9, 2], [2, 4, 5, 6, 9]), ([3, 10, 10, 2], [2, 3, 10]), ([2, 11], [2, 11]), ([12, 11, 0, 1, 2, 3, 4, 5, 6, 7, 8, 9, 10, 11, 12], [12])])
def Bl12 : List Nat := [0, 1, 3, 7, 7, 7, 7, 7, 7, 391, 1015, 2047, 4095, 8191]
theorem tabl12 : rtab .any (opsOf Tryz.f5 12) = Tl12 := by kernel_rfl
theorem bitsl12 : waitsOk Tl12.2 Bl12 = true := by kernel_rfl
set_option maxHeartbeats 8000000 in
set_option maxRecDepth 100000 in
theorem walk (r : Ru) (p : Rp) (b n : Int) (w : World) (ok : Ok r p w) (hs : r.a5.size ≤ 9223372036854775807) :
  Calls Tryz.prog 5 #[.agg (agg r p), .int .i64 b, .int .i64 n] w fun e w' => e = .returned (.bool true) ∧ Below w.heap.size w w' := by
 obtain ⟨fb, rb, e, L, h1, h2, h3, h4, h5, h6⟩ := told r hs b n
 have F := Aside0.mk h1; have HR := Aside0.mk h2; have HT := Aside0.mk h3; have H4 := Aside0.mk h4; have H5 := Aside0.mk h5; have H6 := Aside0.mk h6
 have OK := Aside0.mk ok
 clear h1 h2 h3 h4 h5 h6 ok hs
 have HK := Aside0.mk (blk_new w (obj r p))
 have HB := Aside0.mk (below_alloc (Below.refl w.heap.size w) (obj r p))
 go_enter Tryz.func5, Tryz.ntmps5
 go_upto_region 1 with fail
 generalize w.alloc (obj r p) = w0 at HK HB ⊢
 go_wp2_with fail
 refine (awake w0).mono ?_
 rintro q w1 ⟨rfl, hb⟩
 replace HK := Aside0.mk (blk_below HK.out hb)
 replace HB := Aside0.mk (below_then HB.out HB.out.size hb)
 clear hb
 go_wp2_with ((with_reducible refine gate_ (.load 27 (.tmp 3)) rfl ?_); (try (refine gate_guard (by rfl) ?_; dsimp only)); refine Kd.event_run rfl (MatP.xR (.tmp 3) (w.heap.size) r p rfl rfl _ HK.out) ?_)
 refine (fewX r p w1).mono ?_
 rintro q w2 ⟨rfl, hb⟩
 replace HK := Aside0.mk (blk_below HK.out hb)
 replace HB := Aside0.mk (below_then HB.out HB.out.size hb)
 clear hb
 generalize RefW.few r.l11.length r.l8.length r.l9.length r.l10.length r.l12.length r.l13.length r.l14.length r.l15.length r.l16.length = fw
 cases fw with
 | false =>
  go_wp2_with fail
  refine (awake w2).mono ?_
  rintro q w3 ⟨rfl, hb⟩
  replace HK := Aside0.mk (blk_below HK.out hb)
  replace HB := Aside0.mk (below_then HB.out HB.out.size hb)
  clear hb
  go_wp2_with fail
  go_ret
  exact ⟨rfl, HB.out⟩
 | true =>
  go_wp2_with ((with_reducible refine gate_ (.load 27 (.tmp 3)) rfl ?_); (try (refine gate_guard (by rfl) ?_; dsimp only)); refine Kd.event_run rfl (MatP.xR (.tmp 3) (w.heap.size) r p rfl rfl _ HK.out) ?_)
  refine (HT.out p w2 (OK.out.below HB.out)).mono ?_
  rintro q w3 ⟨⟨A1, c1_, rfl, hC, hc⟩, hb⟩
  replace HK := Aside0.mk (blk_below HK.out hb)
  replace HB := Aside0.mk (below_then HB.out HB.out.size hb)
  have CL := Aside0.mk hC; have CCL := Aside0.mk hc
  clear hb hC hc HT
  go_wp2_with ((with_reducible refine gate_ (.load 27 (.tmp 3)) rfl ?_); (try (refine gate_guard (by rfl) ?_; dsimp only)); refine Kd.event_run rfl (MatP.xR (.tmp 3) (w.heap.size) r p rfl rfl _ HK.out) ?_)
  refine (F.out p w3 (OK.out.below HB.out)).mono ?_
  rintro q w4 ⟨rfl, hb⟩
  replace HK := Aside0.mk (blk_below HK.out hb)
  replace HB := Aside0.mk (below_then HB.out HB.out.size hb)
  replace CL := Aside0.mk (Kd.C_below CL.out hb)
  clear hb F
  cases fb with
  | false =>
   obtain ⟨rfl, rfl⟩ := H4.out (by simp)
   go_wp2_with fail
   go_ret
   exact ⟨rfl, HB.out⟩
  | true =>
   go_wp2_with fail
   refine (trystref01_Right.calls b rb _ HR.out).mono ?_
   rintro q w5 ⟨rfl, ⟨nd, rfl⟩⟩
   replace HK := Aside0.mk (blk_drewN HK.out nd)
   replace HB := Aside0.mk (pw_below_drewN HB.out nd)
   replace CL := Aside0.mk (Kd.C_drewN CL.out nd)
   generalize w4.drewN nd = w5 at HK HB CL ⊢
   cases rb with
   | false =>
    obtain ⟨rfl, rfl⟩ := H5.out (by simp) (by simp)
    go_wp2_with fail
    go_ret
    exact ⟨rfl, HB.out⟩
   | true =>
    obtain ⟨rfl, hlen, h7, h8⟩ := H6.out (by simp) (by simp)
    have LN := Aside0.mk hlen; have H7 := Aside0.mk h7; have H8 := Aside0.mk h8
    clear hlen h7 h8 H4 H5 H6
    go_wp2_with ((with_reducible refine gate_ (.load 27 (.tmp 3)) rfl ?_); (try (refine gate_guard (by rfl) ?_; dsimp only)); refine Kd.event_run rfl (MatP.xR (.tmp 3) (w.heap.size) r p rfl rfl _ HK.out) ?_)
    refine (perX r p w5 (OK.out.below HB.out)).mono ?_
    rintro q w6 ⟨rfl, hb⟩
    replace HK := Aside0.mk (blk_below HK.out hb)
    replace HB := Aside0.mk (below_then HB.out HB.out.size hb)
    replace CL := Aside0.mk (Kd.C_below CL.out hb)
    clear hb
    generalize pd r = pv
    by_cases c : pv > 200
    ·have c1 : decide (pv > 200) = true := decide_eq_true c
     clear c
     go_wp2_with fail
     go_ret
     exact ⟨rfl, HB.out⟩
    have c1 : decide (pv > 200) = false := decide_eq_false c
    clear c
    by_cases g : n > 4000000
    ·have g1 : decide (n > 4000000) = true := decide_eq_true g
     obtain rfl := H7.out (by first | exact .inl g | omega)
     clear g
     go_wp2_with fail
     go_ret
     exact ⟨rfl, HB.out⟩
    by_cases g2 : n < 0
    ·have g1 : decide (n > 4000000) = false := decide_eq_false g; have g3 : decide (n < 0) = true := decide_eq_true g2
     obtain rfl := H7.out (by first | exact .inr g2 | omega)
     clear g g2
     go_wp2_with fail
     go_ret
     exact ⟨rfl, HB.out⟩
    have g1 : decide (n > 4000000) = false := decide_eq_false g; have g3 : decide (n < 0) = false := decide_eq_false g2
    obtain ⟨D, hD⟩ := H8.out (by omega) (by omega)
    have SD := Aside0.mk (hD p).1; have TD := Aside0.mk (hD p).2
    clear hD g g2 H7 H8
    go_upto_region 12 with fail
    have HR := Aside0.mk (below_drew1 (Below.refl w6.heap.size w6))
    refine start_ (n := 14) (S := fun w' => w'.heap[w.heap.size]? = some (obj r p) ∧ (Kd.int .i64).C w' A1 L.length L) (ds := []) (tt 14 0) (by kernel_rfl) rfl rfl ⟨blk_drew HK.out, Kd.C_drew CL.out⟩ (fun hHeld => ?_)
    refine with_tabW tabl12 bitsl12 (fun HT_ HW_ => ?_)
    generalize w6.drew = wd_ at HR hHeld ⊢
    refine pu 0 (some 64) (tt 14 1) HT_ ?_
    refine pu 1 (some 65) (tt 14 2) HT_ ?_
    refine pu 2 (some 66) (tt 14 3) HT_ ?_
    refine pu 3 (some 67) (tt 14 4) HT_ ?_
    refine take_ (i := 4) (N := some 68) (v := .agg (agg r p)) (a' := ?_) (tt 14 5) rfl rfl (take_ofW HT_.out HW_.out (by kernel_rfl)) (fun _ _ _ h => h) (Or.inl ⟨by rfl, fun w' hs => MatP.xR (.tmp 3) (w.heap.size) r p rfl rfl w' hs.1⟩) hHeld ?_ ?_
    rotate_left
    ·simp only [Act.put, sA, sB, sC, i64_w, i32_w]
     rfl
    refine pu 5 (some 69) (tt 14 6) HT_ ?_
    refine pu 6 (some 70) (tt 14 7) HT_ ?_
    refine take_ (i := 7) (N := some 71) (v := .agg (agg r p)) (a' := ?_) (tt 14 8) rfl rfl (take_ofW HT_.out HW_.out (by kernel_rfl)) (fun _ _ _ h => h) (Or.inl ⟨by rfl, fun w' hs => MatP.xR (.tmp 3) (w.heap.size) r p rfl rfl w' hs.1⟩) hHeld ?_ ?_
    rotate_left
    ·simp only [Act.put, sA, sB, sC, i64_w, i32_w]
     rfl
    refine pu 8 (some 72) (tt 14 9) HT_ ?_
    refine one_ (i := 9) (N := some 73) (tt 14 10) rfl rfl (one_of HT_.out (by kernel_rfl)) (by decide) (fun K hK => ?_)
    refine goes_ Tryz.func22 (by kernel_rfl) rfl #[.agg (agg r p), .int .i64 b] (by rfl) rfl rfl (by (try simp only [List.map_toArray, List.map_cons, List.map_nil]); first | done | rfl) ?_
    refine (SD.out _ (OK.out.below (below_then HB.out HB.out.size HR.out))).mono ?_
    rintro q wq1 ⟨⟨AD, cD, rfl, hCD, hcD, hfD⟩, hb⟩
    refine ⟨_, rfl, ?_⟩
    replace HR := Aside0.mk (below_then HR.out HR.out.size hb)
    refine hK.out _ _ ⟨blk_below hHeld.1 hb, Kd.C_below hHeld.2 hb⟩ (fun hHeld => ?_)
    clear hK K
    refine norm_ (a' := ?_) ?_ ?_
    rotate_left
    ·show Act.put _ (some 73) _ = _
     simp only [Act.put, sA, sB, sC, i64_w, i32_w]
     rfl
    refine one_ (i := 10) (N := some 74) (tt 14 11) rfl rfl (one_of HT_.out (by kernel_rfl)) (by decide) (fun K hK => ?_)
    refine goes_ Tryz.func21 (by kernel_rfl) rfl #[.agg (agg r p), .int .i64 b, .int .i64 n, .slice AD D.length cD] (by rfl) rfl rfl (by (try simp only [List.map_toArray, List.map_cons, List.map_nil]); first | done | rfl) ?_
    refine (TD.out _ AD cD (OK.out.below (below_then HB.out HB.out.size HR.out)) hCD hcD).mono ?_
    rintro q wq2 ⟨⟨AT, cT, rfl, hCT, hcT, hfT⟩, hb⟩
    refine ⟨_, rfl, ?_⟩
    replace HR := Aside0.mk (below_then HR.out HR.out.size hb)
    refine hK.out _ _ ⟨blk_below hHeld.1 hb, Kd.C_below hHeld.2 hb⟩ (fun hHeld => ?_)
    clear hK K
    refine norm_ (a' := ?_) ?_ ?_
    rotate_left
    ·show Act.put _ (some 74) _ = _
     simp only [Act.put, sA, sB, sC, i64_w, i32_w]
     rfl
    refine one_ (i := 11) (N := some 75) (tt 14 12) rfl rfl (one_of HT_.out (by kernel_rfl)) (by decide) (fun K hK => ?_)
    refine goes_ Tryz.func19 (by kernel_rfl) rfl #[.slice A1 L.length c1_, .slice AT L.length cT] (by rfl) rfl rfl (by (try simp only [List.map_toArray, List.map_cons, List.map_nil]); first | done | rfl) ?_
    refine (trystlaw15_Same.calls (L.length + 1) A1 c1_ L AT cT L true _ hHeld.2 CCL.out hCT hcT (same_ L LN.out)).mono ?_
    rintro q wq3 ⟨rfl, ⟨nd, rfl⟩⟩
    refine ⟨_, rfl, ?_⟩
    replace HR := Aside0.mk (pw_below_drewN HR.out nd)
    refine hK.out _ _ ⟨blk_drewN hHeld.1 nd, Kd.C_drewN hHeld.2 nd⟩ (fun hHeld => ?_)
    clear hK K
    refine norm_ (a' := ?_) ?_ ?_
    rotate_left
    ·show Act.put _ (some 75) _ = _
     simp only [Act.put, sA, sB, sC, i64_w, i32_w]
     rfl
    refine pu 12 (some 76) (tt 14 13) HT_ ?_
    refine pu 13 (some 6) (tt 14 14) HT_ ?_
    refine done_ (done_of HT_.out (by kernel_rfl)) ?_
    clear HT_ HW_
    replace HB := Aside0.mk (below_then HB.out HB.out.size HR.out)
    clear hHeld HR
    go_wp2_with fail
    go_ret
    exact ⟨rfl, HB.out⟩
end ExpandTimesW
theorem ExpandTimes_calls (cs : Array Value) (x : OpRule.V) (b n : Int) (w : World) (hK : OpRule.d.K w x cs.toList) (hP : OpRule.Ph x) (_ : (Lit.int .i64 b).wf = true) (_ : (Lit.int .i64 n).wf = true) : Calls Tryz.prog 5 #[.agg cs, .int .i64 b, .int .i64 n] w fun e w' => e = .returned (.bool true) ∧ Below w.heap.size w w' := by
 obtain ⟨p, hc, ok⟩ := OpRule.form hK
 obtain rfl := Array.toList_inj.1 hc
 exact ExpandTimesW.walk (OpRule.ru x) p b n w ok (by have h : x.2.2.2.1.2.2.size ≤ maxLen := hP; unfold maxLen at h; show x.2.2.2.1.2.2.size ≤ _; omega)
end Go.Proofs.YtfdcldjoncednaaGreat.Pure
