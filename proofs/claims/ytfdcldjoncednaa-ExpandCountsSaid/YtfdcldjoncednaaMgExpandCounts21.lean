/- Texts of this claim, merged: Op, OpRule, PureExpandCounts. -/
import Derived.Test.YtfdcldjoncednaaMgExpandCounts1
import Derived.Deep.Slices
import Derived.ChangeSame
import Derived.Test.YtfdcldjoncednaaMgExpandCounts18
import Derived.Test.YtfdcldjoncednaaMgExpandCounts19
import Derived.Test.YtfdcldjoncednaaMgExpandCounts20
/- What an argument's cells read as, kind by kind: numbers, bools, texts, structs, slices of whatever of these. -/
namespace Go.Proofs.Ytfdcldjoncednaa.Op
open Go.ChangeShapes Go.WideShapes Go.RowKit Go.Deep Go.Proofs.YtfdcldjoncednaaW.PrintWords Go.Proofs.YtfdcldjoncednaaW.PrintLast
set_option linter.unusedVariables false
set_option linter.unusedSimpArgs false
/-- Whatever reads as type t reads as kind d, and φ holds of what is read. -/
def Opk {α : Type} (P : Program) (t : TypeId) (d : Kd α) (φ : α → Prop) : Prop :=
 P.cellsOf t = d.sz ∧ ∀ {H : Type} {enc : TypeId × Value → H} {w : World} {base : Nat} {spare : Nat → Bool} {held : Bool} {fuel : Nat} {cs : List Value} {x : DataW H × List MemPlace}, DataW.trod enc P w base spare held fuel t cs = some x → ∃ z : α, d.K w z cs ∧ φ z
theorem Opk.int {P : Program} {t : TypeId} {k : IntKind} (ht : P.underlying t = some (.int k)) (hC : P.cellsOf t = 1) : Opk P t (Kd.int k) (fun n => (Lit.int k n).wf = true) :=
 ⟨hC, fun h => by obtain ⟨n, rfl, _, hw⟩ := DataW.trod_int ht h; exact ⟨n, rfl, hw⟩⟩
theorem Opk.bool {P : Program} {t : TypeId} (ht : P.underlying t = some .bool) (hC : P.cellsOf t = 1) : Opk P t Kd.bool (fun _ => True) :=
 ⟨hC, fun h => by obtain ⟨b, rfl, _⟩ := DataW.trod_bool ht h; exact ⟨b, rfl, trivial⟩⟩
theorem Opk.string {P : Program} {t : TypeId} (ht : P.underlying t = some .string) (hC : P.cellsOf t = 1) : Opk P t Kd.string (fun s => s.size ≤ maxLen) :=
 ⟨hC, fun h => by obtain ⟨s, rfl, _, hs⟩ := DataW.trod_string ht h; exact ⟨s, rfl, hs⟩⟩
theorem C_of {α : Type} (d : Kd α) (w : World) (a : Addr) (len : Nat) (hlen : len ≤ 9223372036854775807) (xs : Nat → α) (hc : ∀ i, i < len → ∃ cs, d.K w (xs i) cs ∧ ∀ j u, cs[j]? = some u → w.cell? (a.add (i * d.sz + j)) = some u) :
  Kd.C d w (some a) len ((List.range len).map xs) := by
 refine ⟨by simp, hlen, fun _ => ⟨a, rfl, fun j p hp => ?_⟩⟩
 rw [List.getElem?_map] at hp
 by_cases h : j < len
 ·rw [List.getElem?_range h] at hp
  obtain rfl := Option.some.inj hp
  obtain ⟨cs, hK, hcs⟩ := hc j h
  exact ⟨cs, d.K_len hK, hK, hcs⟩
 ·rw [List.getElem?_eq_none (by simp; omega)] at hp
  cases hp
theorem C_nil {α : Type} (d : Kd α) (w : World) (A : Option Addr) : Kd.C d w A 0 ([] : List α) := ⟨rfl, by omega, fun h => by omega⟩
theorem Opk.slice {α : Type} [Inhabited α] {P : Program} {t e : TypeId} {d : Kd α} {φ : α → Prop} (ht : P.underlying t = some (.slice e)) (hC : P.cellsOf t = 1) (he : Opk P e d φ) : Opk P t (Kd.slice e d) (fun l => l.length ≤ maxLen ∧ ∀ x ∈ l, φ x) :=
 ⟨hC, fun {H enc w base spare held fuel cs x} h => by
  rcases open_slice ht h with ⟨rfl, _⟩ | ⟨a, len, cap, m, n, D, Pl, rfl, _, hl, hm, hmm, _, hi⟩
  ·exact ⟨[], ⟨none, 0, rfl, Nat.le_refl _, C_nil _ _ _⟩, by simp, fun x hx => by cases hx⟩
  ·obtain ⟨hsz, hop⟩ := he
   have each : ∀ i, i < len → ∃ z : α, φ z ∧ ∃ cs', d.K w z cs' ∧ ∀ j u, cs'[j]? = some u → w.cell? (a.add (i * d.sz + j)) = some u := by
    intro i hil
    obtain ⟨cs', hc, ht'⟩ := hi i (by rw [hmm]; split <;> omega)
    obtain ⟨z, hz, hφ⟩ := hop ht'
    rw [hsz] at hc
    obtain ⟨_, hcl, hat⟩ := World.cells?_some hc
    refine ⟨z, hφ, cs', hz, fun j u hu => ?_⟩
    have hj : j < d.sz := by rw [← hcl]; exact (List.getElem?_eq_some_iff.1 hu).1
    rw [← Go.Deep.add_add, hat j hj, hu]
   obtain ⟨xs, hxs⟩ := choose_lt each
   have hlen : len ≤ 9223372036854775807 := by unfold maxLen at hm; omega
   have hC0 := C_of d w a len hlen xs (fun i hi' => (hxs i hi').2)
   have hl0 : ((List.range len).map xs).length = len := by simp
   refine ⟨(List.range len).map xs, ⟨some a, cap, by rw [hl0], by rw [hl0]; exact hl, by rw [hl0]; exact hC0⟩, by rw [hl0]; exact Nat.le_trans hl hm, fun x hx => ?_⟩
   obtain ⟨i, hi', rfl⟩ := List.mem_map.1 hx
   exact (hxs i (List.mem_range.1 hi')).1⟩
/-- A struct's fields from a place on. -/
structure Fl {α : Type} (P : Program) (fs : List Field) (o : Nat) (d : Kd α) (φ : α → Prop) : Prop where
 get : ∀ {H : Type} {enc : TypeId × Value → H} {w : World} {base : Nat} {spare : Nat → Bool} {held : Bool} {cs : List Value}, cs.length = o + d.sz → (∀ f ∈ fs, ∃ (n : Nat) (y : DataW H × List MemPlace), DataW.trod enc P w base spare held n f.type ((cs.drop f.offset).take (P.cellsOf f.type)) = some y) → ∃ z : α, d.K w z (cs.drop o) ∧ φ z
theorem Fl.last {α : Type} {P : Program} {f : Field} {o : Nat} {d : Kd α} {φ : α → Prop} (ho : f.offset = o) (hf : Opk P f.type d φ) : Fl P [f] o d φ := by
 constructor
 intro H enc w base spare held cs hl h
 obtain ⟨n, y, hy⟩ := h f (by simp)
 rw [ho, hf.1] at hy
 have e : (cs.drop o).take d.sz = cs.drop o := List.take_of_length_le (by rw [List.length_drop]; omega)
 rw [e] at hy
 exact hf.2 hy
theorem Fl.cons {α β : Type} {P : Program} {f : Field} {r : List Field} {o : Nat} {a : Kd α} {b : Kd β} {φ : α → Prop} {ψ : β → Prop} (ho : f.offset = o) (hf : Opk P f.type a φ) (hr : Fl P r (o + a.sz) b ψ) : Fl P (f :: r) o (Kd.pair a b) (fun x => φ x.1 ∧ ψ x.2) := by
 constructor
 intro H enc w base spare held cs hl h
 obtain ⟨n, y, hy⟩ := h f (by simp)
 rw [ho, hf.1] at hy
 obtain ⟨z0, k0, p0⟩ := hf.2 hy
 have hl' : cs.length = (o + a.sz) + b.sz := by rw [hl]; show o + (a.sz + b.sz) = _; omega
 obtain ⟨z1, k1, p1⟩ := hr.get hl' (fun g hg => h g (by simp [hg]))
 refine ⟨(z0, z1), ⟨(cs.drop o).take a.sz, cs.drop (o + a.sz), ?_, k0, k1⟩, p0, p1⟩
 rw [← List.drop_drop, List.take_append_drop]
theorem Opk.struct {α : Type} {P : Program} {t : TypeId} {fs : Array Field} {d : Kd α} {φ : α → Prop} (ht : P.underlying t = some (.struct fs)) (hC : P.cellsOf t = d.sz) (hf : Fl P fs.toList 0 d φ) : Opk P t d φ :=
 ⟨hC, fun {H enc w base spare held fuel cs x} h => by
  obtain ⟨xs, n, _, _, hlen, hxl, hg⟩ := DataW.trod_struct ht h
  obtain ⟨z, k, p⟩ := hf.get (w := w) (cs := cs) (by rw [hlen, hC]; omega) (fun f hm => by
   obtain ⟨i, hi, rfl⟩ := List.getElem_of_mem hm
   have e := hg i fs.toList[i] (by simp)
   have hx : i < xs.length := by rw [hxl]; simpa using hi
   rw [List.getElem?_eq_getElem hx] at e
   exact ⟨n, _, e⟩)
  exact ⟨z, by simpa using k, p⟩⟩
theorem Opk.iso {α β : Type} {P : Program} {t : TypeId} {d : Kd α} {φ : α → Prop} (f : β → α) (g : α → β) (hfg : ∀ x, f (g x) = x) (h : Opk P t d φ) : Opk P t (Kd.iso d f) (fun x => φ (f x)) :=
 ⟨h.1, fun hx => by
  obtain ⟨z, k, p⟩ := h.2 hx
  exact ⟨g z, by show d.K _ (f (g z)) _; rw [hfg]; exact k, by show φ (f (g z)); rw [hfg]; exact p⟩⟩
end Go.Proofs.Ytfdcldjoncednaa.Op
/- What an argument of rules reads as. -/
namespace Go.Proofs.Ytfdcldjoncednaa.OpRule
open Go.ChangeShapes Go.WideShapes Go.RowKit Go.Deep Go.Proofs.YtfdcldjoncednaaW.PrintWords Go.Proofs.YtfdcldjoncednaaW.PrintLast Go.Proofs.Ytfdcldjoncednaa.M Go.Proofs.Ytfdcldjoncednaa.Op Go.Proofs.Ytfdcldjoncednaa.Ru
set_option linter.unusedVariables false
set_option linter.unusedSimpArgs false
instance : Inhabited S73 := ⟨z73⟩
def PhW (x : S73) : Prop := (Lit.int .i64 x.f0).wf = true ∧ (Lit.int .i64 x.f1).wf = true
set_option maxRecDepth 100000 in
theorem opW : Opk Try.prog 73 k73 PhW :=
 Opk.iso (d := Kd.pair (Kd.int .i64) (Kd.int .i64)) (φ := fun x => (Lit.int .i64 x.1).wf = true ∧ (Lit.int .i64 x.2).wf = true) (fun x : S73 => (x.f0, x.f1)) (fun x : Int × Int => (⟨x.1, x.2⟩ : S73)) (fun _ => rfl) (Opk.struct (P := Try.prog) Try.underlying73 (by kernel_rfl)
  (Fl.cons rfl (Opk.int Try.underlying3 (by kernel_rfl)) (Fl.last rfl (Opk.int Try.underlying3 (by kernel_rfl)))))
abbrev W64 (n : Int) : Prop := (Lit.int .i64 n).wf = true
set_option maxRecDepth 100000 in
theorem opT : Opk Try.prog 23 (Kd.pair (Kd.int .i64) (Kd.pair (Kd.int .i64) Kd.string)) (fun x => W64 x.1 ∧ W64 x.2.1 ∧ x.2.2.size ≤ maxLen) :=
 Opk.struct (P := Try.prog) Try.underlying23 (by kernel_rfl) (Fl.cons rfl (Opk.int Try.underlying3 (by kernel_rfl)) (Fl.cons rfl (Opk.int Try.underlying2 (by kernel_rfl)) (Fl.last rfl (Opk.string Try.underlying9 (by kernel_rfl)))))
abbrev LI : Kd (List Int) := Kd.slice 3 (Kd.int .i64)
abbrev LW : Kd (List S73) := Kd.slice 73 k73
set_option maxRecDepth 100000 in
theorem opI : Opk Try.prog 24 LI (fun l => l.length ≤ maxLen ∧ ∀ x ∈ l, W64 x) := Opk.slice Try.underlying24 (by kernel_rfl) (Opk.int Try.underlying3 (by kernel_rfl))
set_option maxRecDepth 100000 in
theorem opD : Opk Try.prog 25 LW (fun l => l.length ≤ maxLen ∧ ∀ x ∈ l, PhW x) := Opk.slice Try.underlying25 (by kernel_rfl) opW
abbrev d := Kd.pair (Kd.int .i64) (Kd.pair (Kd.int .i64) (Kd.pair (Kd.int .i64) (Kd.pair (Kd.pair (Kd.int .i64) (Kd.pair (Kd.int .i64) Kd.string)) (Kd.pair (Kd.bool) (Kd.pair (Kd.int .i64) (Kd.pair (LI) (Kd.pair (LI) (Kd.pair (LI) (Kd.pair (LW) (Kd.pair (LI) (Kd.pair (LI) (Kd.pair (LI) (Kd.pair (LI) (LI))))))))))))))
abbrev V := Int × Int × Int × (Int × Int × ByteArray) × Bool × Int × List Int × List Int × List Int × List S73 × List Int × List Int × List Int × List Int × List Int
/-- What is asked of a rule that came in: its end's zone is no longer than a text may be. -/
def Ph (x : V) : Prop := x.2.2.2.1.2.2.size ≤ maxLen
set_option maxRecDepth 100000 in
theorem op : Opk Try.prog 27 d Ph := by
 have h : ∃ φ, (∀ x : V, φ x → Ph x) ∧ Opk Try.prog 27 d φ := ⟨_, fun x hx => hx.2.2.2.1.2.2, Opk.struct (P := Try.prog) Try.underlying27 (by kernel_rfl)
  (Fl.cons rfl (Opk.int Try.underlying3 (by kernel_rfl)) (Fl.cons rfl (Opk.int Try.underlying3 (by kernel_rfl)) (Fl.cons rfl (Opk.int Try.underlying3 (by kernel_rfl)) (Fl.cons rfl (opT) (Fl.cons rfl (Opk.bool Try.underlying4 (by kernel_rfl)) (Fl.cons rfl (Opk.int Try.underlying3 (by kernel_rfl)) (Fl.cons rfl (opI) (Fl.cons rfl (opI) (Fl.cons rfl (opI) (Fl.cons rfl (opD) (Fl.cons rfl (opI) (Fl.cons rfl (opI) (Fl.cons rfl (opI) (Fl.cons rfl (opI) (Fl.last rfl (opI))))))))))))))))⟩
 obtain ⟨φ, hφ, h1, h2⟩ := h
 exact ⟨h1, fun hx => by obtain ⟨z, k, q⟩ := h2 hx; exact ⟨z, k, hφ z q⟩⟩
def zero : Value := .agg #[.int .i64 0, .int .i64 0, .int .i64 0, .int .i64 0, .int .i64 0, .string ⟨#[]⟩, .bool false, .int .i64 0, .slice none 0 0, .slice none 0 0, .slice none 0 0, .slice none 0 0, .slice none 0 0, .slice none 0 0, .slice none 0 0, .slice none 0 0, .slice none 0 0]
def ru (x : V) : Ru := ⟨x.1, x.2.1, x.2.2.1, x.2.2.2.1.1, x.2.2.2.1.2.1, x.2.2.2.1.2.2, x.2.2.2.2.1, x.2.2.2.2.2.1, x.2.2.2.2.2.2.1, x.2.2.2.2.2.2.2.1, x.2.2.2.2.2.2.2.2.1, x.2.2.2.2.2.2.2.2.2.1, x.2.2.2.2.2.2.2.2.2.2.1, x.2.2.2.2.2.2.2.2.2.2.2.1, x.2.2.2.2.2.2.2.2.2.2.2.2.1, x.2.2.2.2.2.2.2.2.2.2.2.2.2.1, x.2.2.2.2.2.2.2.2.2.2.2.2.2.2⟩
theorem form {w : World} {x : V} {cs : List Value} (h : d.K w x cs) : ∃ p : Rp, cs = (agg (ru x) p).toList ∧ Ok (ru x) p w := by
 obtain ⟨x0, x1, x2, ⟨x3, x4, x5⟩, x6, x7, x8, x9, x10, x11, x12, x13, x14, x15, x16⟩ := x
 obtain ⟨a0, b0, rfl, e0, a1, b1, rfl, e1, a2, b2, rfl, e2, a3, b3, rfl, ⟨a4, b4, rfl, e4, a5, b5, rfl, e5, e6⟩, a6, b6, rfl, e7, a7, b7, rfl, e8, a8, b8, rfl, e9, a9, b9, rfl, e10, a10, b10, rfl, e11, a11, b11, rfl, e12, a12, b12, rfl, e13, a13, b13, rfl, e14, a14, b14, rfl, e15, a15, b15, rfl, e16, e17⟩ := h
 change _ = [_] at e0 e1 e2 e4 e5 e6 e7 e8
 subst e0 e1 e2 e4 e5 e6 e7 e8
 obtain ⟨A8, c8, rfl, d8, h8⟩ := e9
 obtain ⟨A9, c9, rfl, d9, h9⟩ := e10
 obtain ⟨A10, c10, rfl, d10, h10⟩ := e11
 obtain ⟨A11, c11, rfl, d11, h11⟩ := e12
 obtain ⟨A12, c12, rfl, d12, h12⟩ := e13
 obtain ⟨A13, c13, rfl, d13, h13⟩ := e14
 obtain ⟨A14, c14, rfl, d14, h14⟩ := e15
 obtain ⟨A15, c15, rfl, d15, h15⟩ := e16
 obtain ⟨A16, c16, rfl, d16, h16⟩ := e17
 exact ⟨⟨A8, c8, A9, c9, A10, c10, A11, c11, A12, c12, A13, c13, A14, c14, A15, c15, A16, c16⟩, rfl, ⟨h8, d8, h9, d9, h10, d10, h11, d11, h12, d12, h13, d13, h14, d14, h15, d15, h16, d16⟩⟩
end Go.Proofs.Ytfdcldjoncednaa.OpRule
/- A rule with a count means as many times, if there are so many; all of them rise, the begin first: with no condition. -/
namespace Go.Proofs.Ytfdcldjoncednaa.Pure
open Go.RowKit Go.Proofs.YtfdcldjoncednaaW.PrintWords Go.Proofs.YtfdcldjoncednaaW.PrintLast Go.Proofs.Ytfdcldjoncednaa.M Go.Proofs.Ytfdcldjoncednaa.Cal Go.Proofs.Ytfdcldjoncednaa.FunA Go.Proofs.Ytfdcldjoncednaa.Ru Go.Proofs.Ytfdcldjoncednaa.MatP Go.Proofs.Ytfdcldjoncednaa.MatG Go.Proofs.Ytfdcldjoncednaa.RecG Go.Proofs.Ytfdcldjoncednaa.RefF Go.Proofs.Ytfdcldjoncednaa.ExE Go.Proofs.Ytfdcldjoncednaa.ExI Go.Proofs.Ytfdcldjoncednaa.ExU Go.Proofs.Ytfdcldjoncednaa.PureE Go.Proofs.Ytfdcldjoncednaa.ExB Go.Proofs.Ytfdcldjoncednaa.ExR Go.Proofs.Ytfdcldjoncednaa.ExL
set_option linter.unusedVariables false
set_option linter.unusedSimpArgs false
namespace ExpandCountsW
theorem reform (r : Ru) (p : Rp) (k : Nat) (rt : Bool) (w : World) (ok : Ok r p w) (h : trystref12_RightTime.f k r.a3 r.a4 r.a5 = some rt) :
  Calls Try.prog 15 #[.agg (agg r p)] w fun e w' => e = .returned (.bool (frmB r rt)) ∧ Below w.heap.size w w' :=
 RefF.walk r p k rt (oth r) w ok h rfl (fun i hi => rfl)
/-- What is asked of the list. -/
def Good (r : Ru) (b : Int) (L : List Int) (more : Bool) : Prop := (∀ i : Nat, i + 1 < L.length → rd L (i : Int) < rd L ((i + 1 : Nat) : Int)) ∧ 0 < L.length ∧ L.length ≤ 100 ∧ rd L 0 = b ∧ (r.a2 = 0 ∨ ((L.length : Int) ≤ r.a2 ∧ more = false))
/-- What is told of the call. -/
theorem told (r : Ru) (hs : r.a5.size ≤ 9223372036854775807) (b l : Int) (hc : ¬ r.a2 > 30) (hl : 86400 ≤ b → b ≤ 315537984000 → b ≤ l) : ∃ (fb rb : Bool) (e : Int) (L : List Int) (more : Bool),
  (∀ (p : Rp) (w : World), Ok r p w → Calls Try.prog 15 #[.agg (agg r p)] w fun e w' => e = .returned (.bool fb) ∧ Below w.heap.size w w') ∧ trystref01_Right.f b = some rb ∧
  (∀ (p : Rp) (w : World), Ok r p w → Calls Try.prog 14 #[.agg (agg r p), .int .i64 b, .int .i64 l, .int .i64 100] w fun q W' => OutU W' L more e q ∧ Below w.heap.size w W') ∧
  (e ≠ 0 → (fb && rb) = false) ∧ (e = 0 → Good r b L more) := by
 obtain ⟨rt, hrt⟩ := both r hs
 have hf := (hrt (r.a5.size + 200) (by omega)).2
 have h12 := (hrt (r.a5.size + 200) (by omega)).1
 have hr := Right.cRight b
 have hr1 := Right.fRight b
 obtain ⟨fb, hfb⟩ : ∃ fb, frmB r rt = fb := ⟨_, rfl⟩
 obtain ⟨rb, hrb⟩ : ∃ rb, (decide (86400 ≤ b) && decide (b < 315537984000)) = rb := ⟨_, rfl⟩
 have F : ∀ (p : Rp) (w : World), Ok r p w → Calls Try.prog 15 #[.agg (agg r p)] w fun e w' => e = .returned (.bool fb) ∧ Below w.heap.size w w' := fun p w ok => by
  have := reform r p _ rt w ok h12
  rwa [hfb] at this
 rw [hfb] at hf; rw [hrb] at hr hr1
 cases hx : fb && rb with
 | false =>
  obtain ⟨e, ne, _, h⟩ := bad r _ fb rb b hf hr hx
  exact ⟨fb, rb, e, [], false, F, hr1, fun p w ok => h p l 100 w ok, fun _ => hx, fun q => absurd q ne⟩
 | true =>
  simp only [Bool.and_eq_true] at hx
  obtain ⟨rfl, rfl⟩ := hx
  simp only [Bool.and_eq_true, decide_eq_true_eq] at hrb
  obtain ⟨B, sf, sl, se, fit, hH⟩ := has_ r rt _ (by omega) hfb hf b hrb.1 hrb.2
  obtain ⟨r1, e1⟩ := ends hH (endF r l) (timL r sf sl se fit (b % 86400)) 3652060 0 (wrap64 (r.a2 - 1)) (by omega) (by omega) (by omega)
  obtain ⟨u1, u2, _, u4⟩ := each_up (by omega) hH (endF r l) _ 0 (wrap64 (r.a2 - 1)) r1 (by omega) (by omega) e1
  have c0 := hH.full.c0
  have hbl := hl hrb.1 (by omega)
  have ha : allU b l r1 = b :: r1 := if_neg (by omega)
  refine ⟨true, true, 0, _, _, F, hr1, fun p w ok => until_ hH hr p l 100 r1 _ e1 (Or.inr (by omega)) (by omega) w ok, fun q => absurd rfl q, fun _ => ?_⟩
  have up := all_up (last := l) u1 u2
  rw [ha] at up ⊢
  have up2 : Up ((b :: r1).take (100 : Int).toNat) := List.Pairwise.sublist (List.take_sublist _ _) up
  refine ⟨fun i hi => up_rd up2 (by omega) hi, by simp, by rw [List.length_take]; omega, rfl, ?_⟩
  by_cases z : r.a2 = 0
  ·exact .inl z
  ·rw [w64 (x := r.a2 - 1) (by omega) (by omega)] at u4
   have := u4 (by omega) (by omega)
   refine .inr ⟨by rw [List.length_take, List.length_cons]; omega, decide_eq_false (by rw [List.length_cons]; omega)⟩
set_option maxHeartbeats 4000000 in
set_option maxRecDepth 100000 in
theorem walk (r : Ru) (p : Rp) (b : Int) (w : World) (ok : Ok r p w) (hs : r.a5.size ≤ 9223372036854775807) :
  Calls Try.prog 5 #[.agg (agg r p), .int .i64 b] w fun e w' => e = .returned (.bool true) ∧ Below w.heap.size w w' := by
 have T := Aside0.mk (told r hs b)
 have OK := Aside0.mk ok
 clear ok hs
 have HK := Aside0.mk (blk_new w (obj r p))
 have HB := Aside0.mk (below_alloc (Below.refl w.heap.size w) (obj r p))
 go_enter Try.func5, Try.ntmps5
 go_upto_region 1 with fail
 generalize w.alloc (obj r p) = w0 at HK HB ⊢
 go_wp2_with fail
 refine (awake w0).mono ?_
 rintro e w1 ⟨rfl, hb⟩
 replace HK := Aside0.mk (blk_below HK.out hb)
 replace HB := Aside0.mk (below_then HB.out HB.out.size hb)
 clear hb
 go_wp2_with ((with_reducible refine gate_ (.load 27 (.tmp 2)) rfl ?_); (try (refine gate_guard (by rfl) ?_; dsimp only)); refine Kd.event_run rfl (MatP.xR (.tmp 2) (w.heap.size) r p rfl rfl _ HK.out) ?_)
 refine (fewX r p w1).mono ?_
 rintro e w2 ⟨rfl, hb⟩
 replace HK := Aside0.mk (blk_below HK.out hb)
 replace HB := Aside0.mk (below_then HB.out HB.out.size hb)
 clear hb
 generalize RefW.few r.l11.length r.l8.length r.l9.length r.l10.length r.l12.length r.l13.length r.l14.length r.l15.length r.l16.length = fw
 cases fw with
 | false =>
  go_wp2_with fail
  refine (awake w2).mono ?_
  rintro e w3 ⟨rfl, hb⟩
  replace HB := Aside0.mk (below_then HB.out HB.out.size hb)
  clear hb
  go_wp2_with fail
  go_ret
  exact ⟨rfl, HB.out⟩
 | true =>
  have k2 : w2.cell? ⟨w.heap.size, 2, none⟩ = some (.int .i64 r.a2) := (blk_cell HK.out 2).trans rfl
  by_cases c : r.a2 > 30
  ·have c1 : decide (r.a2 > 30) = true := decide_eq_true c
   clear c
   go_wp2_with fail
   refine (awake w2).mono ?_
   rintro e w3 ⟨rfl, hb⟩
   replace HB := Aside0.mk (below_then HB.out HB.out.size hb)
   clear hb
   go_wp2_with fail
   go_ret
   exact ⟨rfl, HB.out⟩
  have c0 : decide (r.a2 > 30) = false := decide_eq_false c
  have CC := Aside0.mk c
  clear c
  go_wp2_with ((with_reducible refine gate_ (.load 27 (.tmp 2)) rfl ?_); (try (refine gate_guard (by rfl) ?_; dsimp only)); refine Kd.event_run rfl (MatP.xR (.tmp 2) (w.heap.size) r p rfl rfl _ HK.out) ?_)
  refine (perX r p w2 (OK.out.below HB.out)).mono ?_
  rintro e w3 ⟨rfl, hb⟩
  replace HK := Aside0.mk (blk_below HK.out hb)
  replace HB := Aside0.mk (below_then HB.out HB.out.size hb)
  clear hb k2
  generalize pd r = pv
  by_cases c : pv > 200
  ·have c1 : decide (pv > 200) = true := decide_eq_true c
   clear c
   go_wp2_with fail
   refine (awake w3).mono ?_
   rintro e w4 ⟨rfl, hb⟩
   replace HB := Aside0.mk (below_then HB.out HB.out.size hb)
   clear hb
   go_wp2_with fail
   go_ret
   exact ⟨rfl, HB.out⟩
  have c1 : decide (pv > 200) = false := decide_eq_false c
  clear c
  by_cases c : b > 259200000000
  ·have c2 : decide (b > 259200000000) = true := decide_eq_true c
   clear c
   go_wp2_with fail
   refine (awake w3).mono ?_
   rintro e w4 ⟨rfl, hb⟩
   replace HB := Aside0.mk (below_then HB.out HB.out.size hb)
   clear hb
   go_wp2_with fail
   go_ret
   exact ⟨rfl, HB.out⟩
  have c2 : decide (b > 259200000000) = false := decide_eq_false c
  obtain ⟨a, ha⟩ : ∃ a, wrap64 (b + 172800000) = a := ⟨_, rfl⟩
  obtain ⟨fb, rb, e, L, more, hF, hR, hU, hE, hG⟩ := T.out a CC.out (fun q q' => by rw [← ha, w64 (by omega) (by omega)]; omega)
  have HF := Aside0.mk hF; have HR := Aside0.mk hR; have HU := Aside0.mk hU
  have HX := Aside0.mk (And.intro hE hG)
  clear c hF hR hU hE hG T
  go_wp2_with ((with_reducible refine gate_ (.load 27 (.tmp 2)) rfl ?_); (try (refine gate_guard (by rfl) ?_; dsimp only)); refine Kd.event_run rfl (MatP.xR (.tmp 2) (w.heap.size) r p rfl rfl _ HK.out) ?_)
  refine (HU.out p w3 (OK.out.below HB.out)).mono ?_
  rintro q w4 ⟨⟨A, cp, rfl, hC, hcp⟩, hb⟩
  have CL := Aside0.mk hC; have CCP := Aside0.mk hcp
  replace HK := Aside0.mk (blk_below HK.out hb)
  replace HB := Aside0.mk (below_then HB.out HB.out.size hb)
  clear hb hC hcp HU
  by_cases z : e = 0
  rotate_left
  ·have z1 : (e != 0) = true := bne_iff_ne.2 z
   have FR := Aside0.mk (HX.out.1 z)
   clear z
   go_wp2_with ((with_reducible refine gate_ (.load 27 (.tmp 2)) rfl ?_); (try (refine gate_guard (by rfl) ?_; dsimp only)); refine Kd.event_run rfl (MatP.xR (.tmp 2) (w.heap.size) r p rfl rfl _ HK.out) ?_)
   refine (HF.out p w4 (OK.out.below HB.out)).mono ?_
   rintro q w5 ⟨rfl, hb⟩
   replace HB := Aside0.mk (below_then HB.out HB.out.size hb)
   clear hb HF
   cases fb with
   | false =>
    go_wp2_with fail
    go_ret
    exact ⟨rfl, HB.out⟩
   | true =>
    obtain rfl : rb = false := by have := FR.out; simpa using this
    go_wp2_with fail
    refine (trystref01_Right.calls b false _ HR.out).mono ?_
    rintro q w6 ⟨rfl, ⟨nd, rfl⟩⟩
    replace HB := Aside0.mk (pw_below_drewN HB.out nd)
    go_wp2_with fail
    go_ret
    exact ⟨rfl, HB.out⟩
  have z1 : (e != 0) = false := bne_eq_false_iff_eq.2 z
  have GD := Aside0.mk (HX.out.2 z)
  clear z HX HF HR
  go_wp2_with fail
  go_loopg [52] L.length (fun kq v w' => ∃ (i : Nat) (x : Int), v = .int .i64 x ∧ Aside0 (x = (i : Int)) ∧ Aside0 (i + kq = L.length) ∧ Aside0 (Below w4.heap.size w4 w'))
  case atStart => exact ⟨0, 0, rfl, ⟨rfl⟩, ⟨by omega⟩, ⟨Below.refl _ _⟩⟩
  case round =>
   obtain ⟨i, x, rfl, HI, HN, HL⟩ := hrel
   have CW := Aside0.mk (Kd.C_below CL.out HL.out)
   have KW := Aside0.mk (blk_below HK.out HL.out)
   have BW := Aside0.mk (below_then HB.out HB.out.size HL.out)
   cases gk with
   | zero =>
    have l1 : decide (x < (L.length : Int)) = false := decide_eq_false (by have := HI.out; have := HN.out; omega)
    obtain ⟨g1, g2, g3, g4, g5⟩ := GD.out
    have l2 : decide ((L.length : Int) > 0) = true := decide_eq_true (by omega)
    obtain ⟨ad, e2, hx⟩ := Kd.at_int CW.out 0 (by omega) (by omega)
    cases e2
    rw [g4] at hx
    replace hx : wr.cell? ad = some (.int .i64 b) := hx
    have k2 : wr.cell? ⟨w.heap.size, 2, none⟩ = some (.int .i64 r.a2) := (blk_cell KW.out 2).trans rfl
    clear g1 g3 g4
    rcases g5 with z | ⟨g5, rfl⟩
    ·have z2 : (r.a2 == 0) = true := beq_iff_eq.2 z
     clear z
     go_wp2_with fail
     go_ret
     exact ⟨rfl, BW.out⟩
    ·have l3 : decide ((L.length : Int) ≤ r.a2) = true := decide_eq_true g5
     have z2 : (r.a2 == 0) = false := beq_eq_false_iff_ne.2 (by omega)
     clear g5
     go_wp2_with fail
     go_ret
     exact ⟨rfl, BW.out⟩
   | succ k1 =>
    have q1 : x < (L.length : Int) := by have := HI.out; have := HN.out; omega
    have l1 : decide (x < (L.length : Int)) = true := decide_eq_true q1
    have nx : wrap64 (x + 1) = x + 1 := by have := HI.out; have := HN.out; have := GD.out.2.2.1; unfold wrap64; omega
    by_cases z : x = 0
    ·have l2 : decide (x > 0) = false := decide_eq_false (by omega)
     clear z q1
     go_upto_region 9 with fail
     go_quiet (fail)
     go_wp2_with fail
     go_roundg k1
     case measure => omega
     case rel => exact ⟨i + 1, x + 1, by simp [nx], ⟨by have := HI.out; push_cast; omega⟩, ⟨by have := HN.out; omega⟩, ⟨pw_below_drewN HL.out _⟩⟩
    ·have x0 : x > 0 := by have := HI.out; omega
     have l2 : decide (x > 0) = true := decide_eq_true x0
     obtain ⟨y, hy⟩ : ∃ y, wrap64 (x - 1) = y := ⟨_, rfl⟩
     have ey : y = x - 1 := by rw [← hy]; have := HI.out; have := HN.out; have := GD.out.2.2.1; unfold wrap64; omega
     obtain ⟨ad, e2, hx⟩ := Kd.at_int CW.out x (by omega) q1
     obtain ⟨ad', e3, hx'⟩ := Kd.at_int CW.out y (by omega) (by omega)
     cases e2
     cases e3
     obtain ⟨u, hu⟩ : ∃ u, rd L x = u := ⟨_, rfl⟩
     obtain ⟨v, hv⟩ : ∃ v, rd L y = v := ⟨_, rfl⟩
     have lt : v < u := by
      have := GD.out.1 (i - 1) (by have := HI.out; have := HN.out; omega)
      rw [← hu, ← hv, ey, HI.out]
      rwa [show ((i - 1 : Nat) : Int) = (i : Int) - 1 by have := HI.out; omega, show ((i - 1 + 1 : Nat) : Int) = (i : Int) by have := HI.out; omega] at this
     rw [hu] at hx; rw [hv] at hx'
     have l3 : decide (v ≥ u) = false := decide_eq_false (by omega)
     have p1 : 0 ≤ x := by omega
     have p2 : 0 ≤ y := by omega
     have p3 : y < (L.length : Int) := by omega
     replace p1 := eq_true p1; replace p2 := eq_true p2; replace p3 := eq_true p3; replace q1 := eq_true q1
     clear z x0 ey hu hv lt
     go_upto_region 9 with fail
     go_quiet (fail)
     go_wp2_with fail
     go_roundg k1
     case measure => omega
     case rel => exact ⟨i + 1, x + 1, by simp [nx], ⟨by have := HI.out; push_cast; omega⟩, ⟨by have := HN.out; omega⟩, ⟨pw_below_drewN HL.out _⟩⟩
end ExpandCountsW
theorem ExpandCounts_calls (cs : Array Value) (x : OpRule.V) (b : Int) (w : World) (hK : OpRule.d.K w x cs.toList) (hP : OpRule.Ph x) (_ : (Lit.int .i64 b).wf = true) : Calls Try.prog 5 #[.agg cs, .int .i64 b] w fun e w' => e = .returned (.bool true) ∧ Below w.heap.size w w' := by
 obtain ⟨p, hc, ok⟩ := OpRule.form hK
 obtain rfl := Array.toList_inj.1 hc
 exact ExpandCountsW.walk (OpRule.ru x) p b w ok (by have h : x.2.2.2.1.2.2.size ≤ maxLen := hP; unfold maxLen at h; show x.2.2.2.1.2.2.size ≤ _; omega)
end Go.Proofs.Ytfdcldjoncednaa.Pure
