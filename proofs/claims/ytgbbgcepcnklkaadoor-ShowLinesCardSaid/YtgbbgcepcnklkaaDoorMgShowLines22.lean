/- Texts of this claim, merged: Op, OpEt, PureShowLines. -/
import Derived.Test.YtgbbgcepcnklkaaDoorMgShowLines1
import Derived.Deep.Slices
import Derived.ChangeSame
import Derived.Test.YtgbbgcepcnklkaaDoorMgShowLines21
/- What an argument's cells read as, kind by kind: numbers, bools, texts, structs, slices of whatever of these. -/
namespace Go.Proofs.YtgbbgcepcnklkaaDoor.Op
open Go.ChangeShapes Go.WideShapes Go.RowKit Go.Deep Go.Proofs.YtgbbgcepcnklkaaDoorW.PrintWords Go.Proofs.YtgbbgcepcnklkaaDoorW.PrintLast
set_option linter.unusedVariables false
set_option linter.unusedSimpArgs false
/-- Whatever reads as type t reads as kind d, and φ holds of what is read. -/
def Opk {α : Type} (P : Program) (t : TypeId) (d : Kd α) (φ : α → Prop) : Prop :=
 P.cellsOf t = d.sz ∧ ∀ {H : Type} {enc : TypeId × Value → H} {w : World} {base : Nat} {spare : Nat → Bool} {held : Bool} {fuel : Nat} {cs : List Value} {x : DataW H × List MemPlace}, DataW.trod enc P w base spare held fuel t cs = some x → ∃ z : α, d.K w z cs ∧ φ z
theorem Opk.int {P : Program} {t : TypeId} {k : IntKind} (ht : P.underlying t = some (.int k)) (hC : P.cellsOf t = 1) : Opk P t (Kd.int k) (fun n => (Lit.int k n).wf = true) :=
 ⟨hC, fun h => by obtain ⟨n, rfl, _, hw⟩ := DataW.trod_int ht h; exact ⟨n, rfl, hw⟩⟩
theorem Opk.bool {P : Program} {t : TypeId} (ht : P.underlying t = some .bool) (hC : P.cellsOf t = 1) : Opk P t Kd.bool (fun _ => True) :=
 ⟨hC, fun h => by obtain ⟨b, rfl, _⟩ := DataW.trod_bool ht h; exact ⟨b, rfl, trivial⟩⟩
theorem Opk.string {P : Program} {t : TypeId} (ht : P.underlying t = some .string) (hC : P.cellsOf t = 1) : Opk P t Kd.string (fun s => s.size ≤ maxLen) :=
 ⟨hC, fun h => by obtain ⟨s, rfl, _, hs⟩ := DataW.trod_string ht h; exact ⟨s, rfl, hs⟩⟩
theorem C_of {α : Type} (d : Kd α) (w : World) (a : Addr) (len : Nat) (hlen : len ≤ 9223372036854775807) (xs : Nat → α) (hc : ∀ i, i < len → ∃ cs, d.K w (xs i) cs ∧ ∀ j u, cs[j]? = some u → w.cell? (a.add (i * d.sz + j)) = some u) :
  Kd.C d w (some a) len ((List.range len).map xs) := by
 refine ⟨by simp, hlen, fun _ => ⟨a, rfl, fun j p hp => ?_⟩⟩
 rw [List.getElem?_map] at hp
 by_cases h : j < len
 ·rw [List.getElem?_range h] at hp
  obtain rfl := Option.some.inj hp
  obtain ⟨cs, hK, hcs⟩ := hc j h
  exact ⟨cs, d.K_len hK, hK, hcs⟩
 ·rw [List.getElem?_eq_none (by simp; omega)] at hp
  cases hp
theorem C_nil {α : Type} (d : Kd α) (w : World) (A : Option Addr) : Kd.C d w A 0 ([] : List α) := ⟨rfl, by omega, fun h => by omega⟩
theorem Opk.slice {α : Type} [Inhabited α] {P : Program} {t e : TypeId} {d : Kd α} {φ : α → Prop} (ht : P.underlying t = some (.slice e)) (hC : P.cellsOf t = 1) (he : Opk P e d φ) : Opk P t (Kd.slice e d) (fun l => l.length ≤ maxLen ∧ ∀ x ∈ l, φ x) :=
 ⟨hC, fun {H enc w base spare held fuel cs x} h => by
  rcases open_slice ht h with ⟨rfl, _⟩ | ⟨a, len, cap, m, n, D, Pl, rfl, _, hl, hm, hmm, _, hi⟩
  ·exact ⟨[], ⟨none, 0, rfl, Nat.le_refl _, C_nil _ _ _⟩, by simp, fun x hx => by cases hx⟩
  ·obtain ⟨hsz, hop⟩ := he
   have each : ∀ i, i < len → ∃ z : α, φ z ∧ ∃ cs', d.K w z cs' ∧ ∀ j u, cs'[j]? = some u → w.cell? (a.add (i * d.sz + j)) = some u := by
    intro i hil
    obtain ⟨cs', hc, ht'⟩ := hi i (by rw [hmm]; split <;> omega)
    obtain ⟨z, hz, hφ⟩ := hop ht'
    rw [hsz] at hc
    obtain ⟨_, hcl, hat⟩ := World.cells?_some hc
    refine ⟨z, hφ, cs', hz, fun j u hu => ?_⟩
    have hj : j < d.sz := by rw [← hcl]; exact (List.getElem?_eq_some_iff.1 hu).1
    rw [← Go.Deep.add_add, hat j hj, hu]
   obtain ⟨xs, hxs⟩ := choose_lt each
   have hlen : len ≤ 9223372036854775807 := by unfold maxLen at hm; omega
   have hC0 := C_of d w a len hlen xs (fun i hi' => (hxs i hi').2)
   have hl0 : ((List.range len).map xs).length = len := by simp
   refine ⟨(List.range len).map xs, ⟨some a, cap, by rw [hl0], by rw [hl0]; exact hl, by rw [hl0]; exact hC0⟩, by rw [hl0]; exact Nat.le_trans hl hm, fun x hx => ?_⟩
   obtain ⟨i, hi', rfl⟩ := List.mem_map.1 hx
   exact (hxs i (List.mem_range.1 hi')).1⟩
/-- A struct's fields from a place on. -/
structure Fl {α : Type} (P : Program) (fs : List Field) (o : Nat) (d : Kd α) (φ : α → Prop) : Prop where
 get : ∀ {H : Type} {enc : TypeId × Value → H} {w : World} {base : Nat} {spare : Nat → Bool} {held : Bool} {cs : List Value}, cs.length = o + d.sz → (∀ f ∈ fs, ∃ (n : Nat) (y : DataW H × List MemPlace), DataW.trod enc P w base spare held n f.type ((cs.drop f.offset).take (P.cellsOf f.type)) = some y) → ∃ z : α, d.K w z (cs.drop o) ∧ φ z
theorem Fl.last {α : Type} {P : Program} {f : Field} {o : Nat} {d : Kd α} {φ : α → Prop} (ho : f.offset = o) (hf : Opk P f.type d φ) : Fl P [f] o d φ := by
 constructor
 intro H enc w base spare held cs hl h
 obtain ⟨n, y, hy⟩ := h f (by simp)
 rw [ho, hf.1] at hy
 have e : (cs.drop o).take d.sz = cs.drop o := List.take_of_length_le (by rw [List.length_drop]; omega)
 rw [e] at hy
 exact hf.2 hy
theorem Fl.cons {α β : Type} {P : Program} {f : Field} {r : List Field} {o : Nat} {a : Kd α} {b : Kd β} {φ : α → Prop} {ψ : β → Prop} (ho : f.offset = o) (hf : Opk P f.type a φ) (hr : Fl P r (o + a.sz) b ψ) : Fl P (f :: r) o (Kd.pair a b) (fun x => φ x.1 ∧ ψ x.2) := by
 constructor
 intro H enc w base spare held cs hl h
 obtain ⟨n, y, hy⟩ := h f (by simp)
 rw [ho, hf.1] at hy
 obtain ⟨z0, k0, p0⟩ := hf.2 hy
 have hl' : cs.length = (o + a.sz) + b.sz := by rw [hl]; show o + (a.sz + b.sz) = _; omega
 obtain ⟨z1, k1, p1⟩ := hr.get hl' (fun g hg => h g (by simp [hg]))
 refine ⟨(z0, z1), ⟨(cs.drop o).take a.sz, cs.drop (o + a.sz), ?_, k0, k1⟩, p0, p1⟩
 rw [← List.drop_drop, List.take_append_drop]
theorem Opk.struct {α : Type} {P : Program} {t : TypeId} {fs : Array Field} {d : Kd α} {φ : α → Prop} (ht : P.underlying t = some (.struct fs)) (hC : P.cellsOf t = d.sz) (hf : Fl P fs.toList 0 d φ) : Opk P t d φ :=
 ⟨hC, fun {H enc w base spare held fuel cs x} h => by
  obtain ⟨xs, n, _, _, hlen, hxl, hg⟩ := DataW.trod_struct ht h
  obtain ⟨z, k, p⟩ := hf.get (w := w) (cs := cs) (by rw [hlen, hC]; omega) (fun f hm => by
   obtain ⟨i, hi, rfl⟩ := List.getElem_of_mem hm
   have e := hg i fs.toList[i] (by simp)
   have hx : i < xs.length := by rw [hxl]; simpa using hi
   rw [List.getElem?_eq_getElem hx] at e
   exact ⟨n, _, e⟩)
  exact ⟨z, by simpa using k, p⟩⟩
end Go.Proofs.YtgbbgcepcnklkaaDoor.Op
/- What an argument of evset.Time reads as: three whole numbers, a text, a whole number. -/
namespace Go.Proofs.YtgbbgcepcnklkaaDoor.OpEt
open Go.ChangeShapes Go.WideShapes Go.RowKit Go.Deep Go.Proofs.YtgbbgcepcnklkaaDoorW.PrintWords Go.Proofs.YtgbbgcepcnklkaaDoorW.PrintLast Go.Proofs.YtgbbgcepcnklkaaDoor.Op
set_option linter.unusedVariables false
set_option linter.unusedSimpArgs false
def d := Kd.pair (Kd.int .i64) (Kd.pair (Kd.int .i64) (Kd.pair (Kd.int .i64) (Kd.pair Kd.string (Kd.int .i64))))
def Ph (x : Int × Int × Int × ByteArray × Int) : Prop := (Lit.int .i64 x.1).wf = true ∧ (Lit.int .i64 x.2.1).wf = true ∧ (Lit.int .i64 x.2.2.1).wf = true ∧ x.2.2.2.1.size ≤ maxLen ∧ (Lit.int .i64 x.2.2.2.2).wf = true
def zero : Value := .agg #[.int .i64 0, .int .i64 0, .int .i64 0, .string ⟨#[]⟩, .int .i64 0]
set_option maxRecDepth 100000 in
theorem op : Opk Tryd.prog 35 d Ph :=
 Opk.struct (P := Tryd.prog) Tryd.underlying35 (by kernel_rfl)
  (Fl.cons rfl (Opk.int Tryd.underlying2 (by kernel_rfl)) (Fl.cons rfl (Opk.int Tryd.underlying2 (by kernel_rfl)) (Fl.cons rfl (Opk.int Tryd.underlying2 (by kernel_rfl)) (Fl.cons rfl (Opk.string Tryd.underlying9 (by kernel_rfl)) (Fl.last rfl (Opk.int Tryd.underlying3 (by kernel_rfl)))))))
theorem form {w : World} {x : Int × Int × Int × ByteArray × Int} {cs : List Value} (h : d.K w x cs) : cs = [.int .i64 x.1, .int .i64 x.2.1, .int .i64 x.2.2.1, .string x.2.2.2.1, .int .i64 x.2.2.2.2] := by
 obtain ⟨a, b, rfl, rfl, c, e, rfl, rfl, f, g, rfl, rfl, i, j, rfl, rfl, rfl⟩ := h
 rfl
end Go.Proofs.YtgbbgcepcnklkaaDoor.OpEt
/- Any time is shown on one line as the document says, or not. -/
namespace Go.Proofs.YtgbbgcepcnklkaaDoor.Pure
open Go.RowKit Go.Proofs.YtgbbgcepcnklkaaDoorW.PrintWords Go.Proofs.YtgbbgcepcnklkaaDoorW.PrintLast Go.Proofs.YtgbbgcepcnklkaaDoor.L Go.Proofs.YtgbbgcepcnklkaaDoor.Cal
set_option linter.unusedVariables false
set_option linter.unusedSimpArgs false
namespace ShowLinesW
theorem nstep (k : Nat) (x z : Int) (s : List UInt8) (hx : 0 ≤ x) (hx' : x ≤ 1000) (hz : -10 ≤ z) (hz' : z ≤ 10) (h : x > 0 ∨ z > 0 ∨ s = []) (hs : s.length ≤ 100) :
  Go.Proofs.YtgbbgcepcnklkaaDoor.Q.trystref01_number.l0 (k + 1) x z ⟨s.toArray⟩ = Go.Proofs.YtgbbgcepcnklkaaDoor.Q.trystref01_number.l0 k (x / 10) (z - 1) ⟨(FunT.dg x :: s).toArray⟩ := by
 simp only [Go.Proofs.YtgbbgcepcnklkaaDoor.Q.trystref01_number.l0, Option.bind_some]
 have hb : (⟨#[FunT.dg x]⟩ : ByteArray).size = 1 := rfl
 have e : (⟨#[FunT.dg x]⟩ : ByteArray) ++ ⟨s.toArray⟩ = ⟨(FunT.dg x :: s).toArray⟩ := FunT.app [FunT.dg x] s
 rw [FunT.byte_one x hx, Int.tdiv_eq_ediv_of_nonneg hx, w64 (x := x / 10) (by omega) (by omega), w64 (x := z - 1) (by omega) (by omega), hb, FunT.size_of, e]
 by_cases c : x > 0
 ·rw [if_pos c, if_pos (by omega)]
 ·rw [if_neg c]
  by_cases c2 : z > 0
  ·rw [if_pos c2, if_pos (by omega)]
  ·have hn : s = [] := by rcases h with h | h | h; exact absurd h c; exact absurd h c2; exact h
   subst hn
   rw [if_neg (by omega), if_pos (by rw [ByteArray.toList_eq]), if_pos (by simp)]
theorem nend (k : Nat) (z : Int) (a : UInt8) (s : List UInt8) (hz : z ≤ 0) : Go.Proofs.YtgbbgcepcnklkaaDoor.Q.trystref01_number.l0 (k + 1) 0 z ⟨(a :: s).toArray⟩ = some ⟨(a :: s).toArray⟩ := by
 simp only [Go.Proofs.YtgbbgcepcnklkaaDoor.Q.trystref01_number.l0]
 rw [if_neg (by omega), if_neg (by omega), if_neg (by rw [ByteArray.toList_eq]; simp)]
theorem two (k : Nat) (hk : 8 ≤ k) (n : Int) (h : 0 ≤ n) (h' : n ≤ 99) : trystref01_Two.f k n = some ⟨[FunT.dg (n / 10), FunT.dg n].toArray⟩ := by
 obtain ⟨k, rfl⟩ : ∃ m, k = m + 4 := ⟨k - 4, by omega⟩
 unfold trystref01_Two.f
 simp only [trystref01_number.f, Go.Proofs.YtgbbgcepcnklkaaDoor.Q.trystref01_number.f]
 have e0 : (⟨#[]⟩ : ByteArray) = ⟨([] : List UInt8).toArray⟩ := rfl
 have z : n / 10 / 10 = 0 := by omega
 rw [if_neg (by omega), e0, nstep (k + 2) n 2 [] h (by omega) (by omega) (by omega) (Or.inr (Or.inl (by omega))) (by simp), nstep (k + 1) (n / 10) (2 - 1) _ (by omega) (by omega) (by omega) (by omega) (Or.inr (Or.inl (by omega))) (by simp), z, nend k _ _ _ (by omega)]
 rfl
/-- An hour and a minute. -/
def H (a : Int) : ByteArray := ⟨[FunT.dg (a % 86400 / 3600 / 10), FunT.dg (a % 86400 / 3600), 58, FunT.dg (a % 86400 / 60 % 60 / 10), FunT.dg (a % 86400 / 60 % 60)].toArray⟩
theorem H_size (a : Int) : (H a).size = 5 := rfl
theorem el (x : Int) (h : 0 ≤ x) (h' : x ≤ 9) : UInt8.ofNat ((wrap64 (48 + x)) % 256).toNat = FunT.dg x := by
 rw [w64 (by omega) (by omega)]
 unfold FunT.dg
 congr 2
 omega
theorem dg10 (x : Int) : FunT.dg (x % 10) = FunT.dg x := by
 unfold FunT.dg
 congr 2
 omega
theorem lawH (k : Nat) (hk : 8 ≤ k) (a : Int) (h : 86400 ≤ a) (h' : a < 315537984000) : trystlaw27_hours.f k a = some (H a) := by
 have n0 : 0 ≤ a := by omega
 unfold trystlaw27_hours.f
 rw [Int.tmod_eq_emod_of_nonneg n0]
 unfold H
 obtain ⟨s, hs⟩ : ∃ s, s = a % 86400 := ⟨_, rfl⟩
 have s0 : 0 ≤ s ∧ s < 86400 := by omega
 rw [← hs]
 rw [Int.tdiv_eq_ediv_of_nonneg s0.1, Int.tdiv_eq_ediv_of_nonneg s0.1, w64 (x := s / 3600) (by omega) (by omega), w64 (x := s / 60) (by omega) (by omega), Int.tmod_eq_emod_of_nonneg (by omega), two k hk (s / 3600) (by omega) (by omega), Option.bind_some, two k hk (s / 60 % 60) (by omega) (by omega), Option.bind_some]
 rw [if_pos (by simp [ByteArray.size]), if_pos (by simp only [ByteArray.size_append]; simp [ByteArray.size])]
 refine congrArg some ?_
 have e1 : (⟨#[58]⟩ : ByteArray) = ⟨[58].toArray⟩ := rfl
 rw [e1, FunT.app, FunT.app]
 rfl
theorem right (a : Int) : clock_Right.f a = some (decide (86400 ≤ a ∧ a < 315537984000)) := by
 unfold clock_Right.f
 by_cases c : a ≥ 86400
 ·rw [if_pos c]; refine congrArg some (decide_eq_decide.2 ?_); omega
 ·rw [if_neg c]; refine congrArg some (decide_eq_false ?_).symm; omega
theorem refRight (a : Int) : trystref01_Right.f a = some (decide (86400 ≤ a ∧ a < 315537984000)) := by
 unfold trystref01_Right.f
 by_cases c : a ≥ 86400
 ·rw [if_pos c]; refine congrArg some (decide_eq_decide.2 ?_); omega
 ·rw [if_neg c]; refine congrArg some (decide_eq_false ?_).symm; omega
theorem isCal (c : Int) : show_is.f c = some (decide (0 ≤ c ∧ c ≤ 6)) := by
 unfold show_is.f
 by_cases a : c ≥ 0
 ·rw [if_pos a]; refine congrArg some (decide_eq_decide.2 ?_); omega
 ·rw [if_neg a]; refine congrArg some (decide_eq_false ?_).symm; omega
theorem split (a : Int) (h : 86400 ≤ a) (h' : a < 315537984000) : clock_split.f a = some (a / 86400, a % 86400) := by
 unfold clock_split.f
 have n0 : 0 ≤ a := by omega
 rw [Int.tmod_eq_emod_of_nonneg n0, Int.tdiv_eq_ediv_of_nonneg n0, if_neg (by omega), w64 (by omega) (by omega)]
theorem day (a : Int) (h : 86400 ≤ a) (h' : a < 315537984000) : clock_Day.f a = some (a / 86400) := by
 unfold clock_Day.f
 rw [right, Option.bind_some, decide_eq_true ⟨h, h'⟩, if_pos rfl, split a h h', Option.bind_some]
theorem progH (a : Int) (h : 86400 ≤ a) (h' : a < 315537984000) : show_hours.f a = some (H a) := by
 unfold show_hours.f clock_Second.f
 rw [right, Option.bind_some, decide_eq_true ⟨h, h'⟩, if_pos rfl, split a h h', Option.bind_some, Option.bind_some]
 unfold H
 obtain ⟨s, hs⟩ : ∃ s, s = a % 86400 := ⟨_, rfl⟩
 have s0 : 0 ≤ s ∧ s < 86400 := by omega
 dsimp only
 rw [← hs]
 refine congrArg some ?_
 rw [Int.tdiv_eq_ediv_of_nonneg s0.1, Int.tdiv_eq_ediv_of_nonneg s0.1, w64 (x := s / 3600) (by omega) (by omega), w64 (x := s / 60) (by omega) (by omega), Int.tmod_eq_emod_of_nonneg (a := s / 60) (by omega)]
 obtain ⟨p, hp⟩ : ∃ p, p = s / 3600 := ⟨_, rfl⟩
 obtain ⟨q, hq⟩ : ∃ q, q = s / 60 % 60 := ⟨_, rfl⟩
 have p0 : 0 ≤ p ∧ p < 24 := by omega
 have q0 : 0 ≤ q ∧ q < 60 := by omega
 rw [← hp, ← hq]
 clear hp hq hs s0
 rw [Int.tdiv_eq_ediv_of_nonneg p0.1, Int.tdiv_eq_ediv_of_nonneg q0.1, Int.tmod_eq_emod_of_nonneg p0.1, Int.tmod_eq_emod_of_nonneg q0.1, w64 (x := p / 10) (by omega) (by omega), w64 (x := q / 10) (by omega) (by omega)]
 unfold strOfNums
 simp only [List.map_cons, List.map_nil]
 rw [el (p / 10) (by omega) (by omega), el (p % 10) (by omega) (by omega), el (q / 10) (by omega) (by omega), el (q % 10) (by omega) (by omega), dg10, dg10]
 rfl
/-- The summary's numbers so far. -/
def sm (s : ByteArray) (i : Nat) : List Int := (List.range i).map fun j => Clean.num s s.size j
theorem bt_num (s : ByteArray) (i : Nat) (h : i < s.size) : bt s (i : Int) = (s.data.toList.getD i 0).toNat := by
 have hj : i < s.data.toList.length := by have : s.data.toList.length = s.size := Array.length_toList; omega
 rw [← bt_at s (i : Int) (by simpa using h)]
 have e : s.data[i]? = some s[i] := Array.getElem?_eq_getElem (by exact h)
 simp [List.getD, hj, e]
theorem num_any (s : ByteArray) (i : Nat) (h : i < s.size) : Clean.num s s.size i = ((Clean.cl (s.data.toList.getD i 0)).toNat : Int) := by unfold Clean.num; rw [if_pos h]
theorem sm_succ (s : ByteArray) (i : Nat) : sm s (i + 1) = sm s i ++ [Clean.num s s.size i] := by unfold sm; rw [List.range_succ, List.map_append]; rfl
theorem sm_len (s : ByteArray) (i : Nat) : (sm s i).length = i := by unfold sm; simp
/-- What stands behind the loop. -/
def fin (k : Nat) (x1 : Int) (x5 : ByteArray) (x6 : Int) (x7 : List Int) (a b : Int) (st : Int) : Option Bool := trystlaw27_ShowLines.l0 (k + 1) x1 x5 x6 x7 0 0 a b 0 ⟨#[]⟩ st
theorem loop (s : ByteArray) (hs : s.size ≤ 1000) (x1 : Int) (x5 : ByteArray) (x6 a b c st : Int) : ∀ (d i k : Nat), i + d = s.size →
  trystlaw27_ShowLines.l0 (k + d + 1) x1 x5 x6 (sm s i) (s.size : Int) (i : Int) a b c s st = trystlaw27_ShowLines.l0 (k + 1) x1 x5 x6 (sm s s.size) (s.size : Int) (s.size : Int) a b c s st := by
 intro d
 induction d with
 | zero =>
  intro i k h
  obtain rfl : i = s.size := by omega
  rfl
 | succ d ih =>
  intro i k h
  have hi : i < s.size := by omega
  have hr := bt_num s i hi
  have hn := num_any s i hi
  have e : wrap64 ((i : Int) + 1) = ((i + 1 : Nat) : Int) := by rw [w64 (by omega) (by omega)]; rfl
  rw [show k + (d + 1) + 1 = (k + d + 1) + 1 by omega, trystlaw27_ShowLines.l0]
  rw [if_pos (by omega), if_pos (by omega), if_pos (by omega), e, if_pos (show (sm s i).length < 140737488355328 by rw [sm_len]; omega)]
  have ih := ih (i + 1) k (by omega)
  rw [sm_succ] at ih
  by_cases q1 : bt s (i : Int) < 32
  ·rw [if_pos q1]
   rw [hn, Clean.cl_yes _ (Or.inl (by rw [← hr]; exact q1))] at ih
   exact ih
  ·rw [if_neg q1]
   by_cases q2 : bt s (i : Int) = 127
   ·rw [if_pos q2]
    rw [hn, Clean.cl_yes _ (Or.inr (by rw [← hr]; exact q2))] at ih
    exact ih
   ·rw [if_neg q2, if_pos (show (sm s i).length < 140737488355328 by rw [sm_len]; omega)]
    rw [hn, Clean.cl_no _ (by rw [← hr]; exact q1) (by rw [← hr]; exact q2), ← hr] at ih
    exact ih
theorem clean_size (s : ByteArray) : (Clean.clean s).size = s.size := by
 unfold Clean.clean
 rw [FunT.size_of, List.length_map]
 exact Array.length_toList
/-- The line of a time. -/
def ln (T : ByteArray) (s : ByteArray) (a b st : Int) : ByteArray :=
 if st = 1 then ((((((T ++ (⟨#[32]⟩ : ByteArray)) ++ H a) ++ (⟨#[45]⟩ : ByteArray)) ++ H b) ++ (⟨#[32]⟩ : ByteArray)) ++ Clean.clean s) ++ (⟨#[32, 40, 116, 101, 110, 116, 97, 116, 105, 118, 101, 41]⟩ : ByteArray)
 else if st = 3 then ((((((T ++ (⟨#[32]⟩ : ByteArray)) ++ H a) ++ (⟨#[45]⟩ : ByteArray)) ++ H b) ++ (⟨#[32]⟩ : ByteArray)) ++ Clean.clean s) ++ (⟨#[32, 40, 99, 97, 110, 99, 101, 108, 108, 101, 100, 41]⟩ : ByteArray)
 else (((((T ++ (⟨#[32]⟩ : ByteArray)) ++ H a) ++ (⟨#[45]⟩ : ByteArray)) ++ H b) ++ (⟨#[32]⟩ : ByteArray)) ++ Clean.clean s
theorem one (x : UInt8) : (⟨#[x]⟩ : ByteArray).size = 1 := rfl
theorem line (T s : ByteArray) (e0 a b i st c : Int) (hc : 0 ≤ c ∧ c ≤ 6) (ha : 86400 ≤ a ∧ a < 315537984000) (hb : 86400 ≤ b ∧ b < 315537984000) (hs : s.size ≤ 1000) (ht : T.size ≤ 400) (hT : ShowTx2.text c (a / 86400) = some (T, e0)) :
  show_Line.f a b i s st c = some (ln T s a b st, 0) := by
 have hz := clean_size s
 have hT' : show_Text.f c (a / 86400) = some (T, e0) := hT
 have hcl : show_clean.f s = some (Clean.clean s) := by unfold show_clean.f; rw [if_pos hs]
 unfold show_Line.f
 rw [isCal, Option.bind_some, decide_eq_true hc, if_pos rfl, right, Option.bind_some, decide_eq_true ha, if_pos rfl, right, Option.bind_some, decide_eq_true hb, if_pos rfl, day a ha.1 ha.2, Option.bind_some, hT', Option.bind_some, progH a ha.1 ha.2, Option.bind_some]
 rw [if_pos (by rw [H_size]; omega), if_pos (by simp only [ByteArray.size_append, H_size, one]; omega), progH b hb.1 hb.2, Option.bind_some]
 rw [if_pos (by simp only [ByteArray.size_append, H_size, one]; omega), if_pos (by simp only [ByteArray.size_append, H_size, one]; omega), hcl, Option.bind_some]
 rw [if_pos (by simp only [ByteArray.size_append, H_size, one]; omega), if_pos (by simp only [ByteArray.size_append, H_size, one]; omega)]
 unfold ln
 by_cases q1 : st = 1
 ·rw [if_neg (by omega), if_pos q1, if_pos q1, if_pos (by simp only [ByteArray.size_append, H_size, one]; omega)]
  simp only [ByteArray.append_assoc]
 ·by_cases q3 : st = 3
  ·rw [if_pos q3, if_neg q1, if_pos q3, if_pos (by simp only [ByteArray.size_append, H_size, one]; omega)]
   simp only [ByteArray.append_assoc]
  ·rw [if_neg q3, if_neg q1, if_neg q1, if_neg q3]
   simp only [ByteArray.append_assoc]
theorem last (T s : ByteArray) (k : Nat) (hk : 10 ≤ k) (a b i st c : Int) (ha : 86400 ≤ a ∧ a < 315537984000) (hb : 86400 ≤ b ∧ b < 315537984000) (hs : s.size ≤ 1000) (ht : T.size ≤ 400) (hT : Go.Proofs.YtgbbgcepcnklkaaDoor.Q.trystref01_Text.f FunZ.K c (a / 86400) = some T) :
  trystlaw27_ShowLines.l0 (k + 1) c (ln T s a b st) 0 (sm s s.size) (s.size : Int) (s.size : Int) a b i s st = some true := by
 have hz := clean_size s
 have hT' : trystref01_Text.f c (a / 86400) = some T := hT
 have hsm : strOfNums (sm s s.size) = Clean.clean s := Clean.row_str s
 have n0 : 0 ≤ a := by omega
 rw [trystlaw27_ShowLines.l0, if_neg (by omega), Int.tdiv_eq_ediv_of_nonneg n0, w64 (by omega) (by omega), hT', Option.bind_some, if_pos (by omega), lawH k (by omega) a ha.1 ha.2, Option.bind_some]
 rw [if_pos (by simp only [ByteArray.size_append, H_size, one]; omega), if_pos (by simp only [ByteArray.size_append, H_size, one]; omega), lawH k (by omega) b hb.1 hb.2, Option.bind_some]
 rw [if_pos (by simp only [ByteArray.size_append, H_size, one]; omega), if_pos (by simp only [ByteArray.size_append, H_size, one]; omega), hsm, if_pos (by simp only [ByteArray.size_append, H_size, one]; omega)]
 unfold ln
 by_cases q1 : st = 1
 ·rw [if_pos q1, if_pos q1, if_pos (by simp only [ByteArray.size_append, H_size, one]; omega), if_pos rfl]
  exact congrArg some (beq_self_eq_true _)
 ·by_cases q3 : st = 3
  ·rw [if_neg q1, if_pos q3, if_neg q1, if_pos q3, if_pos (by simp only [ByteArray.size_append, H_size, one]; omega), if_pos rfl]
   exact congrArg some (beq_self_eq_true _)
  ·rw [if_neg q1, if_neg q3, if_neg q1, if_neg q3, if_pos rfl]
   exact congrArg some (beq_self_eq_true _)
theorem nil_eq : ((⟨#[]⟩ : ByteArray).toList == ([] : List UInt8)) = true := by rw [ByteArray.toList_eq]; rfl
theorem all (a b i : Int) (s : ByteArray) (st c : Int) : trystlaw27_ShowLines.f (s.size + 20) a b i s st c = some true := by
 unfold trystlaw27_ShowLines.f
 have aw : trystlaw27_awake.f = some true := rfl
 rw [aw, Option.bind_some, if_pos rfl, show s.size + 20 = (s.size + 19) + 1 by omega, trystlaw27_ShowLines.j0]
 by_cases big : (s.size : Int) > 1000
 ·rw [decide_eq_true big, if_pos rfl, aw]; rfl
 rw [decide_eq_false big, if_neg (by simp), show s.size + 19 = (s.size + 18) + 1 by omega]
 by_cases hc : 0 ≤ c ∧ c ≤ 6
 ·by_cases ha : 86400 ≤ a ∧ a < 315537984000
  ·by_cases hb : 86400 ≤ b ∧ b < 315537984000
   ·obtain ⟨T, e0, h1, h2, h3, _⟩ := ShowTx2.both c (a / 86400) hc
    rw [line T s e0 a b i st c hc ha hb (by omega) h3 h1, Option.bind_some, if_neg (by omega), decide_eq_false (by omega), trystlaw27_ShowLines.j1, if_neg (by simp), refRight, Option.bind_some, decide_eq_true ha, if_pos rfl, refRight, Option.bind_some, decide_eq_true hb, if_pos rfl]
    have hl := loop s (by omega) c (ln T s a b st) 0 a b i st s.size 0 17 (by omega)
    rw [show s.size + 18 = 17 + s.size + 1 by omega]
    exact hl.trans (last T s 17 (by omega) a b i st c ha hb (by omega) h3 h2)
   ·have hl : show_Line.f a b i s st c = some (⟨#[]⟩, 2) := by
     unfold show_Line.f
     rw [isCal, Option.bind_some, decide_eq_true hc, if_pos rfl, right, Option.bind_some, decide_eq_true ha, if_pos rfl, right, Option.bind_some, decide_eq_false hb, if_neg (by simp)]
    rw [hl, Option.bind_some, if_neg (by omega), decide_eq_false (by omega), trystlaw27_ShowLines.j1, if_neg (by simp), refRight, Option.bind_some, decide_eq_true ha, if_pos rfl, refRight, Option.bind_some, decide_eq_false hb, if_neg (by simp), if_pos rfl, nil_eq]
  ·have hl : show_Line.f a b i s st c = some (⟨#[]⟩, 2) := by
    unfold show_Line.f
    rw [isCal, Option.bind_some, decide_eq_true hc, if_pos rfl, right, Option.bind_some, decide_eq_false ha, if_neg (by simp)]
   rw [hl, Option.bind_some, if_neg (by omega), decide_eq_false (by omega), trystlaw27_ShowLines.j1, if_neg (by simp), refRight, Option.bind_some, decide_eq_false ha, if_neg (by simp), if_pos rfl, nil_eq]
 ·have hl : show_Line.f a b i s st c = some (⟨#[]⟩, 1) := by
   unfold show_Line.f
   rw [isCal, Option.bind_some, decide_eq_false hc, if_neg (by simp)]
  rw [hl, Option.bind_some]
  by_cases n : c < 0
  ·rw [if_pos n, trystlaw27_ShowLines.j1, if_pos rfl, if_pos rfl, nil_eq]
  ·rw [if_neg n, decide_eq_true (by omega), trystlaw27_ShowLines.j1, if_pos rfl, if_pos rfl, nil_eq]
end ShowLinesW
theorem ShowLines_calls (cs : Array Value) (x : Int × Int × Int × ByteArray × Int) (c : Int) (w : World) (hK : OpEt.d.K w x cs.toList) (_ : OpEt.Ph x) (_ : (Lit.int .i64 c).wf = true) (ht : ShowAw.Tab w) : Calls Tryd.prog 4 #[.agg cs, .int .i64 c] w fun e w' => e = .returned (.bool true) ∧ Below w.heap.size w w' := by
 obtain ⟨a, b, i, s, st⟩ := x
 obtain rfl : cs = #[.int .i64 a, .int .i64 b, .int .i64 i, .string s, .int .i64 st] := Array.toList_inj.1 (OpEt.form hK)
 exact
 trystlaw27_ShowLines.calls (s.size + 20) a b i s st c true w (ShowLinesW.all a b i s st c) ht
end Go.Proofs.YtgbbgcepcnklkaaDoor.Pure
