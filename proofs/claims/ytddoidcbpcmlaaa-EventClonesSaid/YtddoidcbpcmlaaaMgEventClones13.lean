/- Texts of this claim, merged: Mawake, Op, Opw, OpGiv. -/
import Derived.Test.YtddoidcbpcmlaaaMgEventClones1
import Derived.Test.YtddoidcbpcmlaaaMgEventClones11
import Derived.Test.YtddoidcbpcmlaaaMgEventClones12
import Derived.Deep.Slices
import Derived.ChangeSame
import Derived.Test.YtddoidcbpcmlaaaMgEventClones7
-- written by a program of this session (wip/own_print.sh)
namespace Go.Proofs.Ytddoidcbpcmlaaa.M
open Go.RowKit Go.Proofs.YtddoidcbpcmlaaaW.PrintWords Go.Proofs.YtddoidcbpcmlaaaW.PrintLast Go.Proofs.YtddoidcbpcmlaaaW.PrintMore
attribute [local go_sem] max2_int min2_int max_two min_two max_three min_three max_four min_four   -- for this text's walks alone
set_option linter.unusedVariables false
set_option linter.unusedSimpArgs false
/-! ### trystlaw18_awake: function 9 -/
def trystlaw18_awake.f (k : Nat)  : Option (Bool) := (event_Address.f k (⟨#[97, 64, 98]⟩ : ByteArray)).bind fun t108 => (if t108 = true then ((event_Address.f k (⟨#[97, 44, 98]⟩ : ByteArray)).bind fun t109 => (if t109 = true then (some false) else ((event_RightPerson.f k (⟨#[97]⟩ : ByteArray) 0 0 false (⟨#[]⟩ : ByteArray) (⟨#[]⟩ : ByteArray)).bind fun t110 => (some t110)))) else (some false))
set_option maxHeartbeats 8000000 in
set_option maxRecDepth 100000 in
theorem trystlaw18_awake.calls (k : Nat)  (r : Bool) (w : World) (h : trystlaw18_awake.f k  = some r) :
    Calls Try.prog 9 #[] w fun e w' => e = .returned (.bool r) ∧ Below w.heap.size w w' := by
  have hu40 := Try.underlying40
  have HB := Aside0.mk (Below.refl w.heap.size w)
  have H : ((event_Address.f k (⟨#[97, 64, 98]⟩ : ByteArray)).bind fun t108 => (if t108 = true then ((event_Address.f k (⟨#[97, 44, 98]⟩ : ByteArray)).bind fun t109 => (if t109 = true then (some false) else ((event_RightPerson.f k (⟨#[97]⟩ : ByteArray) 0 0 false (⟨#[]⟩ : ByteArray) (⟨#[]⟩ : ByteArray)).bind fun t110 => (some t110)))) else (some false))) = some r := h
  clear h
  replace H := Option.bind_eq_some_iff.mp H
  obtain ⟨t108, A10, H⟩ := H
  replace H : (if t108 = true then ((event_Address.f k (⟨#[97, 44, 98]⟩ : ByteArray)).bind fun t109 => (if t109 = true then (some false) else ((event_RightPerson.f k (⟨#[97]⟩ : ByteArray) 0 0 false (⟨#[]⟩ : ByteArray) (⟨#[]⟩ : ByteArray)).bind fun t110 => (some t110)))) else (some false)) = some r := H
  have A1 := Aside0.mk A10
  clear A10
  by_cases c2 : t108 = true
  · subst c2
    have H1 : ((event_Address.f k (⟨#[97, 44, 98]⟩ : ByteArray)).bind fun t109 => (if t109 = true then (some false) else ((event_RightPerson.f k (⟨#[97]⟩ : ByteArray) 0 0 false (⟨#[]⟩ : ByteArray) (⟨#[]⟩ : ByteArray)).bind fun t110 => (some t110)))) = some r := by rw [if_pos rfl] at H; exact H
    clear H
    have H := H1
    clear H1
    replace H := Option.bind_eq_some_iff.mp H
    obtain ⟨t109, A30, H⟩ := H
    replace H : (if t109 = true then (some false) else ((event_RightPerson.f k (⟨#[97]⟩ : ByteArray) 0 0 false (⟨#[]⟩ : ByteArray) (⟨#[]⟩ : ByteArray)).bind fun t110 => (some t110))) = some r := H
    have A3 := Aside0.mk A30
    clear A30
    by_cases c4 : t109 = true
    · subst c4
      have H1 : (some false) = some r := by rw [if_pos rfl] at H; exact H
      clear H
      have H := H1
      clear H1
      obtain rfl := Option.some.inj H
      go_enter Try.func9, Try.ntmps9
      go_wp2_with (first | ((with_reducible refine gate_callee (f := 14) rfl ?_); refine goesL_ (some 1) rfl rfl Try.func14 (by kernel_rfl) rfl #[.string (⟨#[97, 64, 98]⟩ : ByteArray)] rfl (by (try simp only [List.map_toArray, List.map_cons, List.map_nil]); first | done | rfl | (simp only [List.length_drop, List.length_take]; rfl)) ?_; (with_reducible refine (event_Address.calls k (⟨#[97, 64, 98]⟩ : ByteArray) true _ A1.out).mono ?_); rintro e w5 ⟨rfl, hb⟩; refine ⟨_, rfl, ?_⟩; have n0_ := Aside0.mk (below_step (by repeat (first | (with_reducible first | exact HB.out | apply below_alloc | apply pw_below_drewN | apply below_drew1) | exact HB.out)) hb); clear HB; have HB := n0_; clear n0_; (try clear hb); (try clear hb2); (try clear hk); (try clear hi)) | (go_at_call 14; (with_reducible refine (event_Address.calls k (⟨#[97, 44, 98]⟩ : ByteArray) true _ A3.out).mono ?_); rintro e w6 ⟨rfl, hb⟩; have n0_ := Aside0.mk (below_step (by repeat (first | (with_reducible first | exact HB.out | apply below_alloc | apply pw_below_drewN | apply below_drew1) | exact HB.out)) hb); clear HB; have HB := n0_; clear n0_; (try clear hb); (try clear hb2); (try clear hk); (try clear hi)))
      go_ret
      exact ⟨by first | rfl | (simp [i64_w]; done) | (simp [errW_none, errW_some] <;> rfl) | (simp [*, errW_none, errW_some] <;> rfl), by repeat (first | (with_reducible first | exact HB.out | apply below_alloc | apply pw_below_drewN | apply below_drew1) | exact HB.out)⟩
    · replace c4 := Bool.eq_false_iff.mpr c4
      subst c4
      have H1 : ((event_RightPerson.f k (⟨#[97]⟩ : ByteArray) 0 0 false (⟨#[]⟩ : ByteArray) (⟨#[]⟩ : ByteArray)).bind fun t110 => (some t110)) = some r := by rw [if_neg (show ¬ (false = true) by decide)] at H; exact H
      clear H
      have H := H1
      clear H1
      replace H := Option.bind_eq_some_iff.mp H
      obtain ⟨t110, A70, H⟩ := H
      replace H : (some t110) = some r := H
      have A7 := Aside0.mk A70
      clear A70
      obtain rfl := Option.some.inj H
      go_enter Try.func9, Try.ntmps9
      go_wp2_with (first | ((with_reducible refine gate_callee (f := 14) rfl ?_); refine goesL_ (some 1) rfl rfl Try.func14 (by kernel_rfl) rfl #[.string (⟨#[97, 64, 98]⟩ : ByteArray)] rfl (by (try simp only [List.map_toArray, List.map_cons, List.map_nil]); first | done | rfl | (simp only [List.length_drop, List.length_take]; rfl)) ?_; (with_reducible refine (event_Address.calls k (⟨#[97, 64, 98]⟩ : ByteArray) true _ A1.out).mono ?_); rintro e w8 ⟨rfl, hb⟩; refine ⟨_, rfl, ?_⟩; have n0_ := Aside0.mk (below_step (by repeat (first | (with_reducible first | exact HB.out | apply below_alloc | apply pw_below_drewN | apply below_drew1) | exact HB.out)) hb); clear HB; have HB := n0_; clear n0_; (try clear hb); (try clear hb2); (try clear hk); (try clear hi)) | (go_at_call 14; (with_reducible refine (event_Address.calls k (⟨#[97, 44, 98]⟩ : ByteArray) false _ A3.out).mono ?_); rintro e w9 ⟨rfl, hb⟩; have n0_ := Aside0.mk (below_step (by repeat (first | (with_reducible first | exact HB.out | apply below_alloc | apply pw_below_drewN | apply below_drew1) | exact HB.out)) hb); clear HB; have HB := n0_; clear n0_; (try clear hb); (try clear hb2); (try clear hk); (try clear hi)) | (go_at_call 12; (with_reducible refine (event_RightPerson.calls k (⟨#[97]⟩ : ByteArray) 0 0 false (⟨#[]⟩ : ByteArray) (⟨#[]⟩ : ByteArray) t110 _ A7.out).mono ?_); rintro e w10 ⟨rfl, hb⟩; have n0_ := Aside0.mk (below_step (by repeat (first | (with_reducible first | exact HB.out | apply below_alloc | apply pw_below_drewN | apply below_drew1) | exact HB.out)) hb); clear HB; have HB := n0_; clear n0_; (try clear hb); (try clear hb2); (try clear hk); (try clear hi)))
      go_ret
      exact ⟨by first | rfl | (simp [i64_w]; done) | (simp [errW_none, errW_some] <;> rfl) | (simp [*, errW_none, errW_some] <;> rfl), by repeat (first | (with_reducible first | exact HB.out | apply below_alloc | apply pw_below_drewN | apply below_drew1) | exact HB.out)⟩
  · replace c2 := Bool.eq_false_iff.mpr c2
    subst c2
    have H1 : (some false) = some r := by rw [if_neg (show ¬ (false = true) by decide)] at H; exact H
    clear H
    have H := H1
    clear H1
    obtain rfl := Option.some.inj H
    go_enter Try.func9, Try.ntmps9
    go_wp2_with (first | ((with_reducible refine gate_callee (f := 14) rfl ?_); refine goesL_ (some 1) rfl rfl Try.func14 (by kernel_rfl) rfl #[.string (⟨#[97, 64, 98]⟩ : ByteArray)] rfl (by (try simp only [List.map_toArray, List.map_cons, List.map_nil]); first | done | rfl | (simp only [List.length_drop, List.length_take]; rfl)) ?_; (with_reducible refine (event_Address.calls k (⟨#[97, 64, 98]⟩ : ByteArray) false _ A1.out).mono ?_); rintro e w11 ⟨rfl, hb⟩; refine ⟨_, rfl, ?_⟩; have n0_ := Aside0.mk (below_step (by repeat (first | (with_reducible first | exact HB.out | apply below_alloc | apply pw_below_drewN | apply below_drew1) | exact HB.out)) hb); clear HB; have HB := n0_; clear n0_; (try clear hb); (try clear hb2); (try clear hk); (try clear hi)))
    go_ret
    exact ⟨by first | rfl | (simp [i64_w]; done) | (simp [errW_none, errW_some] <;> rfl) | (simp [*, errW_none, errW_some] <;> rfl), by repeat (first | (with_reducible first | exact HB.out | apply below_alloc | apply pw_below_drewN | apply below_drew1) | exact HB.out)⟩

-- NOT PRINTED: function 68 (trystref12_Lists)
-- NOT PRINTED: function 49 (trystlaw13_Few)
end Go.Proofs.Ytddoidcbpcmlaaa.M
/- What an argument's cells read as, kind by kind: numbers, bools, texts, structs, slices of whatever of these. -/
namespace Go.Proofs.Ytddoidcbpcmlaaa.Op
open Go.ChangeShapes Go.WideShapes Go.RowKit Go.Deep Go.Proofs.YtddoidcbpcmlaaaW.PrintWords Go.Proofs.YtddoidcbpcmlaaaW.PrintLast
set_option linter.unusedVariables false
set_option linter.unusedSimpArgs false
/-- Whatever reads as type t reads as kind d, and φ holds of what is read. -/
def Opk {α : Type} (P : Program) (t : TypeId) (d : Kd α) (φ : α → Prop) : Prop :=
  P.cellsOf t = d.sz ∧ ∀ {H : Type} {enc : TypeId × Value → H} {w : World} {base : Nat} {spare : Nat → Bool} {held : Bool} {fuel : Nat} {cs : List Value} {x : DataW H × List MemPlace}, DataW.trod enc P w base spare held fuel t cs = some x → ∃ z : α, d.K w z cs ∧ φ z
theorem Opk.int {P : Program} {t : TypeId} {k : IntKind} (ht : P.underlying t = some (.int k)) (hC : P.cellsOf t = 1) : Opk P t (Kd.int k) (fun n => (Lit.int k n).wf = true) :=
  ⟨hC, fun h => by obtain ⟨n, rfl, _, hw⟩ := DataW.trod_int ht h; exact ⟨n, rfl, hw⟩⟩
theorem Opk.bool {P : Program} {t : TypeId} (ht : P.underlying t = some .bool) (hC : P.cellsOf t = 1) : Opk P t Kd.bool (fun _ => True) :=
  ⟨hC, fun h => by obtain ⟨b, rfl, _⟩ := DataW.trod_bool ht h; exact ⟨b, rfl, trivial⟩⟩
theorem Opk.string {P : Program} {t : TypeId} (ht : P.underlying t = some .string) (hC : P.cellsOf t = 1) : Opk P t Kd.string (fun s => s.size ≤ maxLen) :=
  ⟨hC, fun h => by obtain ⟨s, rfl, _, hs⟩ := DataW.trod_string ht h; exact ⟨s, rfl, hs⟩⟩
theorem C_of {α : Type} (d : Kd α) (w : World) (a : Addr) (len : Nat) (hlen : len ≤ 9223372036854775807) (xs : Nat → α) (hc : ∀ i, i < len → ∃ cs, d.K w (xs i) cs ∧ ∀ j u, cs[j]? = some u → w.cell? (a.add (i * d.sz + j)) = some u) :
    Kd.C d w (some a) len ((List.range len).map xs) := by
  refine ⟨by simp, hlen, fun _ => ⟨a, rfl, fun j p hp => ?_⟩⟩
  rw [List.getElem?_map] at hp
  by_cases h : j < len
  · rw [List.getElem?_range h] at hp
    obtain rfl := Option.some.inj hp
    obtain ⟨cs, hK, hcs⟩ := hc j h
    exact ⟨cs, d.K_len hK, hK, hcs⟩
  · rw [List.getElem?_eq_none (by simp; omega)] at hp
    cases hp
theorem C_nil {α : Type} (d : Kd α) (w : World) (A : Option Addr) : Kd.C d w A 0 ([] : List α) := ⟨rfl, by omega, fun h => by omega⟩
theorem Opk.slice {α : Type} [Inhabited α] {P : Program} {t e : TypeId} {d : Kd α} {φ : α → Prop} (ht : P.underlying t = some (.slice e)) (hC : P.cellsOf t = 1) (he : Opk P e d φ) : Opk P t (Kd.slice e d) (fun l => l.length ≤ maxLen ∧ ∀ x ∈ l, φ x) :=
  ⟨hC, fun {H enc w base spare held fuel cs x} h => by
    rcases open_slice ht h with ⟨rfl, _⟩ | ⟨a, len, cap, m, n, D, Pl, rfl, _, hl, hm, hmm, _, hi⟩
    · exact ⟨[], ⟨none, 0, rfl, Nat.le_refl _, C_nil _ _ _⟩, by simp, fun x hx => by cases hx⟩
    · obtain ⟨hsz, hop⟩ := he
      have each : ∀ i, i < len → ∃ z : α, φ z ∧ ∃ cs', d.K w z cs' ∧ ∀ j u, cs'[j]? = some u → w.cell? (a.add (i * d.sz + j)) = some u := by
        intro i hil
        obtain ⟨cs', hc, ht'⟩ := hi i (by rw [hmm]; split <;> omega)
        obtain ⟨z, hz, hφ⟩ := hop ht'
        rw [hsz] at hc
        obtain ⟨_, hcl, hat⟩ := World.cells?_some hc
        refine ⟨z, hφ, cs', hz, fun j u hu => ?_⟩
        have hj : j < d.sz := by rw [← hcl]; exact (List.getElem?_eq_some_iff.1 hu).1
        rw [← Go.Deep.add_add, hat j hj, hu]
      obtain ⟨xs, hxs⟩ := choose_lt each
      have hlen : len ≤ 9223372036854775807 := by unfold maxLen at hm; omega
      have hC0 := C_of d w a len hlen xs (fun i hi' => (hxs i hi').2)
      have hl0 : ((List.range len).map xs).length = len := by simp
      refine ⟨(List.range len).map xs, ⟨some a, cap, by rw [hl0], by rw [hl0]; exact hl, by rw [hl0]; exact hC0⟩, by rw [hl0]; exact Nat.le_trans hl hm, fun x hx => ?_⟩
      obtain ⟨i, hi', rfl⟩ := List.mem_map.1 hx
      exact (hxs i (List.mem_range.1 hi')).1⟩
/-- A struct's fields from a place on. -/
structure Fl {α : Type} (P : Program) (fs : List Field) (o : Nat) (d : Kd α) (φ : α → Prop) : Prop where
  get : ∀ {H : Type} {enc : TypeId × Value → H} {w : World} {base : Nat} {spare : Nat → Bool} {held : Bool} {cs : List Value}, cs.length = o + d.sz → (∀ f ∈ fs, ∃ (n : Nat) (y : DataW H × List MemPlace), DataW.trod enc P w base spare held n f.type ((cs.drop f.offset).take (P.cellsOf f.type)) = some y) → ∃ z : α, d.K w z (cs.drop o) ∧ φ z
theorem Fl.last {α : Type} {P : Program} {f : Field} {o : Nat} {d : Kd α} {φ : α → Prop} (ho : f.offset = o) (hf : Opk P f.type d φ) : Fl P [f] o d φ := by
  constructor
  intro H enc w base spare held cs hl h
  obtain ⟨n, y, hy⟩ := h f (by simp)
  rw [ho, hf.1] at hy
  have e : (cs.drop o).take d.sz = cs.drop o := List.take_of_length_le (by rw [List.length_drop]; omega)
  rw [e] at hy
  exact hf.2 hy
theorem Fl.cons {α β : Type} {P : Program} {f : Field} {r : List Field} {o : Nat} {a : Kd α} {b : Kd β} {φ : α → Prop} {ψ : β → Prop} (ho : f.offset = o) (hf : Opk P f.type a φ) (hr : Fl P r (o + a.sz) b ψ) : Fl P (f :: r) o (Kd.pair a b) (fun x => φ x.1 ∧ ψ x.2) := by
  constructor
  intro H enc w base spare held cs hl h
  obtain ⟨n, y, hy⟩ := h f (by simp)
  rw [ho, hf.1] at hy
  obtain ⟨z0, k0, p0⟩ := hf.2 hy
  have hl' : cs.length = (o + a.sz) + b.sz := by rw [hl]; show o + (a.sz + b.sz) = _; omega
  obtain ⟨z1, k1, p1⟩ := hr.get hl' (fun g hg => h g (by simp [hg]))
  refine ⟨(z0, z1), ⟨(cs.drop o).take a.sz, cs.drop (o + a.sz), ?_, k0, k1⟩, p0, p1⟩
  rw [← List.drop_drop, List.take_append_drop]
theorem Opk.struct {α : Type} {P : Program} {t : TypeId} {fs : Array Field} {d : Kd α} {φ : α → Prop} (ht : P.underlying t = some (.struct fs)) (hC : P.cellsOf t = d.sz) (hf : Fl P fs.toList 0 d φ) : Opk P t d φ :=
  ⟨hC, fun {H enc w base spare held fuel cs x} h => by
    obtain ⟨xs, n, _, _, hlen, hxl, hg⟩ := DataW.trod_struct ht h
    obtain ⟨z, k, p⟩ := hf.get (w := w) (cs := cs) (by rw [hlen, hC]; omega) (fun f hm => by
      obtain ⟨i, hi, rfl⟩ := List.getElem_of_mem hm
      have e := hg i fs.toList[i] (by simp)
      have hx : i < xs.length := by rw [hxl]; simpa using hi
      rw [List.getElem?_eq_getElem hx] at e
      exact ⟨n, _, e⟩)
    exact ⟨z, by simpa using k, p⟩⟩
theorem Opk.iso {α β : Type} {P : Program} {t : TypeId} {d : Kd α} {φ : α → Prop} (f : β → α) (g : α → β) (hfg : ∀ x, f (g x) = x) (h : Opk P t d φ) : Opk P t (Kd.iso d f) (fun x => φ (f x)) :=
  ⟨h.1, fun hx => by
    obtain ⟨z, k, p⟩ := h.2 hx
    exact ⟨g z, by show d.K _ (f (g z)) _; rw [hfg]; exact k, by show φ (f (g z)); rw [hfg]; exact p⟩⟩
end Go.Proofs.Ytddoidcbpcmlaaa.Op
/- What an argument's cells read as, with what the row says of its weight: no slice and no text is heavier than memory is. (By hand.) -/
namespace Go.Proofs.Ytddoidcbpcmlaaa.Opw
open Go.ChangeShapes Go.WideShapes Go.RowKit Go.Deep Go.Proofs.YtddoidcbpcmlaaaW.PrintWords Go.Proofs.YtddoidcbpcmlaaaW.PrintLast Go.Proofs.Ytddoidcbpcmlaaa.Op
set_option linter.unusedVariables false
set_option linter.unusedSimpArgs false
/-- Nothing of it is heavier than memory is. -/
def Wk {H : Type} (P : Program) (t : TypeId) (x : DataW H) : Prop := ∀ n, n ∈ x.weights P t → n ≤ reachBytes
/-- Whatever reads as type t, and is not too heavy, reads as kind d, and φ holds of what is read. -/
def Opw {α : Type} (P : Program) (t : TypeId) (d : Kd α) (φ : α → Prop) : Prop :=
  P.cellsOf t = d.sz ∧ ∀ {H : Type} {enc : TypeId × Value → H} {w : World} {base : Nat} {spare : Nat → Bool} {held : Bool} {fuel : Nat} {cs : List Value} {x : DataW H × List MemPlace}, DataW.trod enc P w base spare held fuel t cs = some x → Wk P t x.1 → ∃ z : α, d.K w z cs ∧ φ z
theorem Opw.of {α : Type} {P : Program} {t : TypeId} {d : Kd α} {φ : α → Prop} (h : Opk P t d φ) : Opw P t d (fun _ => True) := ⟨h.1, fun hx _ => by obtain ⟨z, k, _⟩ := h.2 hx; exact ⟨z, k, trivial⟩⟩
theorem Opw.imp {α : Type} {P : Program} {t : TypeId} {d : Kd α} {φ ψ : α → Prop} (h : Opw P t d φ) (hi : ∀ x, φ x → ψ x) : Opw P t d ψ := ⟨h.1, fun hx hw => by obtain ⟨z, k, q⟩ := h.2 hx hw; exact ⟨z, k, hi z q⟩⟩
theorem all_mem {H : Type} {P : Program} {e : TypeId} {n : Nat} {x : DataW H} : ∀ {l : List (DataW H)}, x ∈ l → n ∈ x.weights P e → n ∈ DataW.weightsAll P e l
  | [], h, _ => by cases h
  | y :: l, h, hn => by
    simp only [DataW.weightsAll]
    rcases List.mem_cons.1 h with rfl | h
    · exact List.mem_append_left _ hn
    · exact List.mem_append_right _ (all_mem h hn)
theorem each_mem {H : Type} {P : Program} {n : Nat} {x : DataW H} {t : TypeId} : ∀ {ts : List TypeId} {l : List (DataW H)} {i : Nat}, ts[i]? = some t → l[i]? = some x → n ∈ x.weights P t → n ∈ DataW.weightsEach P ts l
  | [], _, i, h, _, _ => by simp at h
  | _ :: _, [], i, _, h, _ => by simp at h
  | a :: ts, y :: l, 0, h, h2, hn => by
    simp only [List.getElem?_cons_zero, Option.some.injEq] at h h2
    subst h h2
    simp only [DataW.weightsEach]
    exact List.mem_append_left _ hn
  | a :: ts, y :: l, i + 1, h, h2, hn => by
    simp only [List.getElem?_cons_succ] at h h2
    simp only [DataW.weightsEach]
    exact List.mem_append_right _ (each_mem h h2 hn)
theorem Opw.slice {α : Type} [Inhabited α] {P : Program} {t e : TypeId} {d : Kd α} {φ : α → Prop} (b : Nat) (ht : P.underlying t = some (.slice e)) (hC : P.cellsOf t = 1) (hb : P.bytesOf e = b) (he : Opw P e d φ) : Opw P t (Kd.slice e d) (fun l => l.length * b ≤ reachBytes ∧ ∀ x ∈ l, φ x) :=
  ⟨hC, fun {H enc w base spare held fuel cs x} h hw => by
    rcases open_slice ht h with ⟨rfl, _⟩ | ⟨a, len, cap, m, n, D, Pl, rfl, _, hl, hm, hmm, hxx, hi⟩
    · exact ⟨[], ⟨none, 0, rfl, Nat.le_refl _, C_nil _ _ _⟩, by simp, fun x hx => by cases hx⟩
    · obtain ⟨hsz, hop⟩ := he
      have hle : len ≤ m := by rw [hmm]; split <;> omega
      have hwt : ∀ n, n ∈ ((DataW.slice ((List.range len).map D) ((List.range (m - len)).map fun j => D (len + j)) : DataW H)).weights P t → n ≤ reachBytes := by rw [hxx] at hw; exact hw
      simp only [DataW.weights, ht] at hwt
      have each : ∀ i, i < len → ∃ z : α, φ z ∧ ∃ cs', d.K w z cs' ∧ ∀ j u, cs'[j]? = some u → w.cell? (a.add (i * d.sz + j)) = some u := by
        intro i hil
        obtain ⟨cs', hc, ht'⟩ := hi i (by omega)
        obtain ⟨z, hz, hφ⟩ := hop ht' (fun q hq => hwt q (List.mem_cons_of_mem _ (List.mem_append_left _ (all_mem (List.mem_map.2 ⟨i, List.mem_range.2 hil, rfl⟩) hq))))
        rw [hsz] at hc
        obtain ⟨_, hcl, hat⟩ := World.cells?_some hc
        refine ⟨z, hφ, cs', hz, fun j u hu => ?_⟩
        have hj : j < d.sz := by rw [← hcl]; exact (List.getElem?_eq_some_iff.1 hu).1
        rw [← Go.Deep.add_add, hat j hj, hu]
      obtain ⟨xs, hxs⟩ := choose_lt each
      have hlen : len ≤ 9223372036854775807 := by unfold maxLen at hm; omega
      have hC0 := C_of d w a len hlen xs (fun i hi' => (hxs i hi').2)
      have hl0 : ((List.range len).map xs).length = len := by simp
      have hwl := hwt _ List.mem_cons_self
      rw [List.length_map, List.length_range, hb] at hwl
      refine ⟨(List.range len).map xs, ⟨some a, cap, by rw [hl0], by rw [hl0]; exact hl, by rw [hl0]; exact hC0⟩, by rw [hl0]; exact Nat.le_trans (Nat.mul_le_mul_right _ (Nat.le_add_right _ _)) hwl, fun x hx => ?_⟩
      obtain ⟨i, hi', rfl⟩ := List.mem_map.1 hx
      exact (hxs i (List.mem_range.1 hi')).1⟩
/-- A struct's fields from a place on. -/
structure Flw {α : Type} (P : Program) (fs : List Field) (o : Nat) (d : Kd α) (φ : α → Prop) : Prop where
  get : ∀ {H : Type} {enc : TypeId × Value → H} {w : World} {base : Nat} {spare : Nat → Bool} {held : Bool} {cs : List Value}, cs.length = o + d.sz → (∀ f ∈ fs, ∃ (n : Nat) (y : DataW H × List MemPlace), DataW.trod enc P w base spare held n f.type ((cs.drop f.offset).take (P.cellsOf f.type)) = some y ∧ Wk P f.type y.1) → ∃ z : α, d.K w z (cs.drop o) ∧ φ z
theorem Flw.last {α : Type} {P : Program} {f : Field} {o : Nat} {d : Kd α} {φ : α → Prop} (ho : f.offset = o) (hf : Opw P f.type d φ) : Flw P [f] o d φ := by
  constructor
  intro H enc w base spare held cs hl h
  obtain ⟨n, y, hy, hw⟩ := h f (by simp)
  rw [ho, hf.1] at hy
  have e : (cs.drop o).take d.sz = cs.drop o := List.take_of_length_le (by rw [List.length_drop]; omega)
  rw [e] at hy
  exact hf.2 hy hw
theorem Flw.cons {α β : Type} {P : Program} {f : Field} {r : List Field} {o : Nat} {a : Kd α} {b : Kd β} {φ : α → Prop} {ψ : β → Prop} (ho : f.offset = o) (hf : Opw P f.type a φ) (hr : Flw P r (o + a.sz) b ψ) : Flw P (f :: r) o (Kd.pair a b) (fun x => φ x.1 ∧ ψ x.2) := by
  constructor
  intro H enc w base spare held cs hl h
  obtain ⟨n, y, hy, hw⟩ := h f (by simp)
  rw [ho, hf.1] at hy
  obtain ⟨z0, k0, p0⟩ := hf.2 hy hw
  have hl' : cs.length = (o + a.sz) + b.sz := by rw [hl]; show o + (a.sz + b.sz) = _; omega
  obtain ⟨z1, k1, p1⟩ := hr.get hl' (fun g hg => h g (by simp [hg]))
  refine ⟨(z0, z1), ⟨(cs.drop o).take a.sz, cs.drop (o + a.sz), ?_, k0, k1⟩, p0, p1⟩
  rw [← List.drop_drop, List.take_append_drop]
theorem Opw.struct {α : Type} {P : Program} {t : TypeId} {fs : Array Field} {d : Kd α} {φ : α → Prop} (ht : P.underlying t = some (.struct fs)) (hC : P.cellsOf t = d.sz) (hf : Flw P fs.toList 0 d φ) : Opw P t d φ :=
  ⟨hC, fun {H enc w base spare held fuel cs x} h hw => by
    obtain ⟨xs, n, _, hxx, hlen, hxl, hg⟩ := DataW.trod_struct ht h
    have hwt : ∀ q, q ∈ ((DataW.agg (xs.map (·.1)) : DataW H)).weights P t → q ≤ reachBytes := by rw [hxx] at hw; exact hw
    simp only [DataW.weights, ht] at hwt
    obtain ⟨z, k, p⟩ := hf.get (w := w) (cs := cs) (by rw [hlen, hC]; omega) (fun f hm => by
      obtain ⟨i, hi, rfl⟩ := List.getElem_of_mem hm
      have e := hg i fs.toList[i] (by simp)
      have hx : i < xs.length := by rw [hxl]; simpa using hi
      rw [List.getElem?_eq_getElem hx] at e
      exact ⟨n, _, e, fun q hq => hwt q (each_mem (i := i) (t := (fs.toList[i]).type) (x := xs[i].1) (by rw [List.getElem?_map, List.getElem?_eq_getElem hi]; rfl) (by simp [hx]) hq)⟩)
    exact ⟨z, by simpa using k, p⟩⟩
theorem Opw.iso {α β : Type} {P : Program} {t : TypeId} {d : Kd α} {φ : α → Prop} (f : β → α) (g : α → β) (hfg : ∀ x, f (g x) = x) (h : Opw P t d φ) : Opw P t (Kd.iso d f) (fun x => φ (f x)) :=
  ⟨h.1, fun hx hw => by
    obtain ⟨z, k, p⟩ := h.2 hx hw
    exact ⟨g z, by show d.K _ (f (g z)) _; rw [hfg]; exact k, by show φ (f (g z)); rw [hfg]; exact p⟩⟩
end Go.Proofs.Ytddoidcbpcmlaaa.Opw
/- What an argument of events of the document's reads as. (By hand.) -/
namespace Go.Proofs.Ytddoidcbpcmlaaa.OpGiv
open Go.ChangeShapes Go.WideShapes Go.RowKit Go.Deep Go.Proofs.YtddoidcbpcmlaaaW.PrintWords Go.Proofs.YtddoidcbpcmlaaaW.PrintLast Go.Proofs.Ytddoidcbpcmlaaa.M Go.Proofs.Ytddoidcbpcmlaaa.Op Go.Proofs.Ytddoidcbpcmlaaa.Opw Go.Proofs.Ytddoidcbpcmlaaa.Ru
open Go.Proofs.Ytddoidcbpcmlaaa.SetC (Sv Sp sagg OkS)
open Go.Proofs.Ytddoidcbpcmlaaa.EvC (Ev Ep eagg)
open Go.Proofs.Ytddoidcbpcmlaaa.FewL (DL DP LineOk thL OkG RuOk)
set_option linter.unusedVariables false
set_option linter.unusedSimpArgs false
instance : Inhabited S139 := ⟨z139⟩
instance : Inhabited S25 := ⟨z25⟩
instance : Inhabited S40 := ⟨z40⟩
instance : Inhabited S104 := ⟨z104⟩
instance : Inhabited S80 := ⟨z80⟩
abbrev T1 {α : Type} : α → Prop := fun _ => True
theorem oInt : Opw Try.prog 3 (Kd.int .i64) T1 := Opw.of (Opk.int Try.underlying3 (by kernel_rfl))
theorem oI64 : Opw Try.prog 2 (Kd.int .i64) T1 := Opw.of (Opk.int Try.underlying2 (by kernel_rfl))
theorem oBool : Opw Try.prog 4 Kd.bool T1 := Opw.of (Opk.bool Try.underlying4 (by kernel_rfl))
theorem oStr : Opw Try.prog 9 Kd.string T1 := Opw.of (Opk.string Try.underlying9 (by kernel_rfl))
set_option maxRecDepth 100000 in
theorem oW : Opw Try.prog 139 k139 T1 :=
  (Opw.iso (d := Kd.pair (Kd.int .i64) (Kd.int .i64)) (fun x : S139 => (x.f0, x.f1)) (fun x : Int × Int => (⟨x.1, x.2⟩ : S139)) (fun _ => rfl) (Opw.struct (P := Try.prog) Try.underlying139 (by kernel_rfl) (Flw.cons rfl oInt (Flw.last rfl oInt)))).imp (fun _ _ => trivial)
abbrev dT : Kd (Int × Int × ByteArray) := Kd.pair (Kd.int .i64) (Kd.pair (Kd.int .i64) Kd.string)
set_option maxRecDepth 100000 in
theorem oT0 : Opw Try.prog 25 dT T1 := (Opw.struct (P := Try.prog) Try.underlying25 (by kernel_rfl) (Flw.cons rfl oInt (Flw.cons rfl oI64 (Flw.last rfl oStr)))).imp (fun _ _ => trivial)
theorem oT : Opw Try.prog 25 k25 T1 := (Opw.iso (fun x : S25 => (x.f0, x.f1, x.f2)) (fun x : Int × Int × ByteArray => (⟨x.1, x.2.1, x.2.2⟩ : S25)) (fun _ => rfl) oT0).imp (fun _ _ => trivial)
set_option maxRecDepth 100000 in
theorem oP : Opw Try.prog 40 k40 T1 :=
  (Opw.iso (d := Kd.pair Kd.string (Kd.pair (Kd.int .i64) (Kd.pair (Kd.int .i64) (Kd.pair Kd.bool (Kd.pair Kd.string Kd.string))))) (fun x : S40 => (x.f0, x.f1, x.f2, x.f3, x.f4, x.f5)) (fun x : ByteArray × Int × Int × Bool × ByteArray × ByteArray => (⟨x.1, x.2.1, x.2.2.1, x.2.2.2.1, x.2.2.2.2.1, x.2.2.2.2.2⟩ : S40)) (fun _ => rfl)
    (Opw.struct (P := Try.prog) Try.underlying40 (by kernel_rfl) (Flw.cons rfl oStr (Flw.cons rfl oInt (Flw.cons rfl oInt (Flw.cons rfl oBool (Flw.cons rfl oStr (Flw.last rfl oStr)))))))).imp (fun _ _ => trivial)
theorem oLS : Opw Try.prog 102 (Kd.slice 9 Kd.string) (fun l => l.length * 16 ≤ reachBytes) := (Opw.slice 16 Try.underlying102 (by kernel_rfl) (by kernel_rfl) oStr).imp (fun _ h => h.1)
theorem oLI : Opw Try.prog 26 (Kd.slice 3 (Kd.int .i64)) (fun l => l.length * 8 ≤ reachBytes) := (Opw.slice 8 Try.underlying26 (by kernel_rfl) (by kernel_rfl) oInt).imp (fun _ h => h.1)
theorem oLW : Opw Try.prog 27 (Kd.slice 139 k139) (fun l => l.length * 16 ≤ reachBytes) := (Opw.slice 16 Try.underlying27 (by kernel_rfl) (by kernel_rfl) oW).imp (fun _ h => h.1)
theorem oLT : Opw Try.prog 30 (Kd.slice 25 k25) T1 := (Opw.slice 32 Try.underlying30 (by kernel_rfl) (by kernel_rfl) oT).imp (fun _ _ => trivial)
theorem oLP : Opw Try.prog 33 (Kd.slice 40 k40) T1 := (Opw.slice 72 Try.underlying33 (by kernel_rfl) (by kernel_rfl) oP).imp (fun _ _ => trivial)
set_option maxRecDepth 100000 in
theorem oPa : Opw Try.prog 104 k104 (fun x => x.f1.length * 16 ≤ reachBytes) :=
  (Opw.iso (d := Kd.pair Kd.string (Kd.slice 9 Kd.string)) (fun x : DP => (x.f0, x.f1)) (fun x : ByteArray × List ByteArray => (⟨x.1, x.2⟩ : DP)) (fun _ => rfl) (Opw.struct (P := Try.prog) Try.underlying104 (by kernel_rfl) (Flw.cons rfl oStr (Flw.last rfl oLS)))).imp (fun _ h => h.2)
theorem oLPa : Opw Try.prog 78 (Kd.slice 104 k104) (fun l => l.length * 40 ≤ reachBytes ∧ ∀ x ∈ l, x.f1.length * 16 ≤ reachBytes) := Opw.slice 40 Try.underlying78 (by kernel_rfl) (by kernel_rfl) oPa
theorem lineOk (x : DL) (h : x.f1.length * 40 ≤ reachBytes ∧ ∀ p ∈ x.f1, p.f1.length * 16 ≤ reachBytes) : LineOk x := by
  simp only [reachBytes] at h
  exact ⟨by omega, fun p hp => by have := h.2 p hp; omega⟩
set_option maxRecDepth 100000 in
theorem oL : Opw Try.prog 80 k80 LineOk :=
  (Opw.iso (d := Kd.pair Kd.string (Kd.pair (Kd.slice 104 k104) Kd.string)) (fun x : DL => (x.f0, x.f1, x.f2)) (fun x : ByteArray × List DP × ByteArray => (⟨x.1, x.2.1, x.2.2⟩ : DL)) (fun _ => rfl) (Opw.struct (P := Try.prog) Try.underlying80 (by kernel_rfl) (Flw.cons rfl oStr (Flw.cons rfl oLPa (Flw.last rfl oStr))))).imp (fun x h => lineOk x h.2.1)
theorem oLL : Opw Try.prog 47 (Kd.slice 80 k80) (fun l => ∀ x ∈ l, LineOk x) := (Opw.slice 56 Try.underlying47 (by kernel_rfl) (by kernel_rfl) oL).imp (fun _ h => h.2)
abbrev LI : Kd (List Int) := Kd.slice 3 (Kd.int .i64)
abbrev LW : Kd (List S139) := Kd.slice 139 k139
abbrev LT : Kd (List S25) := Kd.slice 25 k25
abbrev dR := Kd.pair (Kd.int .i64) (Kd.pair (Kd.int .i64) (Kd.pair (Kd.int .i64) (Kd.pair dT (Kd.pair (Kd.bool) (Kd.pair (Kd.int .i64) (Kd.pair (LI) (Kd.pair (LI) (Kd.pair (LI) (Kd.pair (LW) (Kd.pair (LI) (Kd.pair (LI) (Kd.pair (LI) (Kd.pair (LI) (LI))))))))))))))
abbrev VR := Int × Int × Int × (Int × Int × ByteArray) × Bool × Int × List Int × List Int × List Int × List S139 × List Int × List Int × List Int × List Int × List Int
def ru (x : VR) : Ru := ⟨x.1, x.2.1, x.2.2.1, x.2.2.2.1.1, x.2.2.2.1.2.1, x.2.2.2.1.2.2, x.2.2.2.2.1, x.2.2.2.2.2.1, x.2.2.2.2.2.2.1, x.2.2.2.2.2.2.2.1, x.2.2.2.2.2.2.2.2.1, x.2.2.2.2.2.2.2.2.2.1, x.2.2.2.2.2.2.2.2.2.2.1, x.2.2.2.2.2.2.2.2.2.2.2.1, x.2.2.2.2.2.2.2.2.2.2.2.2.1, x.2.2.2.2.2.2.2.2.2.2.2.2.2.1, x.2.2.2.2.2.2.2.2.2.2.2.2.2.2⟩
set_option maxRecDepth 100000 in
theorem oR : Opw Try.prog 29 dR (fun x => RuOk (ru x)) := by
  have h : ∃ φ, (∀ x : VR, φ x → RuOk (ru x)) ∧ Opw Try.prog 29 dR φ := ⟨_, fun x hx => ?_, Opw.struct (P := Try.prog) Try.underlying29 (by kernel_rfl)
    (Flw.cons rfl oInt (Flw.cons rfl oInt (Flw.cons rfl oInt (Flw.cons rfl oT0 (Flw.cons rfl oBool (Flw.cons rfl oInt (Flw.cons rfl oLI (Flw.cons rfl oLI (Flw.cons rfl oLI (Flw.cons rfl oLW (Flw.cons rfl oLI (Flw.cons rfl oLI (Flw.cons rfl oLI (Flw.cons rfl oLI (Flw.last rfl oLI)))))))))))))))⟩
  · obtain ⟨φ, hφ, h1⟩ := h
    exact h1.imp hφ
  · obtain ⟨_, _, _, _, _, _, h6, h7, h8, h9, h10, h11, h12, h13, h14⟩ := hx
    simp only [reachBytes] at h6 h7 h8 h9 h10 h11 h12 h13 h14
    refine ⟨by show x.2.2.2.2.2.2.2.2.2.1.length ≤ _; omega, fun j => ?_⟩
    match j with
    | 0 => show x.2.2.2.2.2.2.1.length ≤ _; omega
    | 1 => show x.2.2.2.2.2.2.2.1.length ≤ _; omega
    | 2 => show x.2.2.2.2.2.2.2.2.1.length ≤ _; omega
    | 3 => show x.2.2.2.2.2.2.2.2.2.2.1.length ≤ _; omega
    | 4 => show x.2.2.2.2.2.2.2.2.2.2.2.1.length ≤ _; omega
    | 5 => show x.2.2.2.2.2.2.2.2.2.2.2.2.1.length ≤ _; omega
    | 6 => show x.2.2.2.2.2.2.2.2.2.2.2.2.2.1.length ≤ _; omega
    | n + 7 => show x.2.2.2.2.2.2.2.2.2.2.2.2.2.2.length ≤ _; omega
theorem formR {w : World} {x : VR} {cs : List Value} (h : dR.K w x cs) : ∃ p : Rp, cs = (agg (ru x) p).toList ∧ Ok (ru x) p w := by
  obtain ⟨x0, x1, x2, ⟨x3, x4, x5⟩, x6, x7, x8, x9, x10, x11, x12, x13, x14, x15, x16⟩ := x
  obtain ⟨a0, b0, rfl, e0, a1, b1, rfl, e1, a2, b2, rfl, e2, a3, b3, rfl, ⟨a4, b4, rfl, e4, a5, b5, rfl, e5, e6⟩, a6, b6, rfl, e7, a7, b7, rfl, e8, a8, b8, rfl, e9, a9, b9, rfl, e10, a10, b10, rfl, e11, a11, b11, rfl, e12, a12, b12, rfl, e13, a13, b13, rfl, e14, a14, b14, rfl, e15, a15, b15, rfl, e16, e17⟩ := h
  change _ = [_] at e0 e1 e2 e4 e5 e6 e7 e8
  subst e0 e1 e2 e4 e5 e6 e7 e8
  obtain ⟨A8, c8, rfl, d8, h8⟩ := e9
  obtain ⟨A9, c9, rfl, d9, h9⟩ := e10
  obtain ⟨A10, c10, rfl, d10, h10⟩ := e11
  obtain ⟨A11, c11, rfl, d11, h11⟩ := e12
  obtain ⟨A12, c12, rfl, d12, h12⟩ := e13
  obtain ⟨A13, c13, rfl, d13, h13⟩ := e14
  obtain ⟨A14, c14, rfl, d14, h14⟩ := e15
  obtain ⟨A15, c15, rfl, d15, h15⟩ := e16
  obtain ⟨A16, c16, rfl, d16, h16⟩ := e17
  exact ⟨⟨A8, c8, A9, c9, A10, c10, A11, c11, A12, c12, A13, c13, A14, c14, A15, c15, A16, c16⟩, rfl, ⟨h8, d8, h9, d9, h10, d10, h11, d11, h12, d12, h13, d13, h14, d14, h15, d15, h16, d16⟩⟩
abbrev dS := Kd.pair dT (Kd.pair Kd.bool (Kd.pair dR (Kd.pair LT LT)))
abbrev VS := (Int × Int × ByteArray) × Bool × VR × List S25 × List S25
def sv (x : VS) : Sv := ⟨⟨x.1.1, x.1.2.1, x.1.2.2⟩, x.2.1, ru x.2.2.1, x.2.2.2.1, x.2.2.2.2⟩
set_option maxRecDepth 100000 in
theorem oS : Opw Try.prog 46 dS (fun x => RuOk (sv x).r) :=
  (Opw.struct (P := Try.prog) Try.underlying46 (by kernel_rfl) (Flw.cons rfl oT0 (Flw.cons rfl oBool (Flw.cons rfl oR (Flw.cons rfl oLT (Flw.last rfl oLT)))))).imp (fun x h => h.2.2.1)
theorem formS {w : World} {x : VS} {cs : List Value} (h : dS.K w x cs) : ∃ p : Sp, cs = (sagg (sv x) p).toList ∧ OkS (sv x) p w := by
  obtain ⟨⟨x0, x1, x2⟩, x3, x4, x5, x6⟩ := x
  obtain ⟨a0, b0, rfl, ⟨a1, b1, rfl, e1, a2, b2, rfl, e2, e3⟩, a3, b3, rfl, e4, a4, b4, rfl, e5, a5, b5, rfl, e6, e7⟩ := h
  change _ = [_] at e1 e2 e3 e4
  subst e1 e2 e3 e4
  obtain ⟨p, rfl, hp⟩ := formR e5
  obtain ⟨A, c, rfl, d, hA⟩ := e6
  obtain ⟨B, c', rfl, d', hB⟩ := e7
  exact ⟨⟨p, A, c, B, c'⟩, rfl, ⟨hp, hA, d, hB, d'⟩⟩
abbrev d := Kd.pair Kd.string (Kd.pair (Kd.int .i64) (Kd.pair (Kd.int .i64) (Kd.pair dS (Kd.pair (Kd.int .i64) (Kd.pair Kd.string (Kd.pair Kd.string (Kd.pair (Kd.int .i64) (Kd.pair Kd.string (Kd.pair (Kd.slice 40 k40) (Kd.pair Kd.bool (Kd.pair dT (Kd.pair Kd.bool (Kd.slice 80 k80)))))))))))))
abbrev V := ByteArray × Int × Int × VS × Int × ByteArray × ByteArray × Int × ByteArray × List S40 × Bool × (Int × Int × ByteArray) × Bool × List DL
def lines (x : V) : List DL := x.2.2.2.2.2.2.2.2.2.2.2.2.2
def ev (x : V) : Ev := ⟨x.1, x.2.1, x.2.2.1, sv x.2.2.2.1, x.2.2.2.2.1, x.2.2.2.2.2.1, x.2.2.2.2.2.2.1, x.2.2.2.2.2.2.2.1, x.2.2.2.2.2.2.2.2.1, x.2.2.2.2.2.2.2.2.2.1, x.2.2.2.2.2.2.2.2.2.2.1, ⟨x.2.2.2.2.2.2.2.2.2.2.2.1.1, x.2.2.2.2.2.2.2.2.2.2.2.1.2.1, x.2.2.2.2.2.2.2.2.2.2.2.1.2.2⟩, x.2.2.2.2.2.2.2.2.2.2.2.2.1, (lines x).map thL⟩
def Ph (x : V) : Prop := RuOk (ev x).set.r ∧ ∀ y ∈ lines x, LineOk y
set_option maxRecDepth 100000 in
theorem op : Opw Try.prog 49 d Ph :=
  (Opw.struct (P := Try.prog) Try.underlying49 (by kernel_rfl) (Flw.cons rfl oStr (Flw.cons rfl oInt (Flw.cons rfl oI64 (Flw.cons rfl oS (Flw.cons rfl oI64 (Flw.cons rfl oStr (Flw.cons rfl oStr (Flw.cons rfl oInt (Flw.cons rfl oStr (Flw.cons rfl oLP (Flw.cons rfl oBool (Flw.cons rfl oT0 (Flw.cons rfl oBool (Flw.last rfl oLL))))))))))))))).imp (fun x h => ⟨h.2.2.2.1, h.2.2.2.2.2.2.2.2.2.2.2.2.2⟩)
theorem form {w : World} {x : V} {cs : List Value} (h : d.K w x cs) : ∃ p : Ep, cs = (eagg (ev x) p).toList ∧ OkG (ev x) (lines x) p w := by
  obtain ⟨x0, x1, x2, x3, x4, x5, x6, x7, x8, x9, x10, ⟨x11, x12, x13⟩, x14, x15⟩ := x
  obtain ⟨a0, b0, rfl, e0, a1, b1, rfl, e1, a2, b2, rfl, e2, a3, b3, rfl, e3, a4, b4, rfl, e4, a5, b5, rfl, e5, a6, b6, rfl, e6, a7, b7, rfl, e7, a8, b8, rfl, e8, a9, b9, rfl, e9, a10, b10, rfl, e10, a11, b11, rfl, ⟨a12, b12, rfl, e12, a13, b13, rfl, e13, e14⟩, a15, b15, rfl, e15, e16⟩ := h
  change _ = [_] at e0 e1 e2 e4 e5 e6 e7 e8 e10 e12 e13 e14 e15
  subst e0 e1 e2 e4 e5 e6 e7 e8 e10 e12 e13 e14 e15
  obtain ⟨p, rfl, hp⟩ := formS e3
  obtain ⟨A, c, rfl, dA, hA⟩ := e9
  obtain ⟨B, c', rfl, dB, hB⟩ := e16
  refine ⟨⟨p, A, c, B, c'⟩, ?_, ⟨hp, hA, dA, hB, dB, rfl⟩⟩
  have e : (x15.map thL).length = x15.length := List.length_map ..
  show _ = (eagg (ev (x0, x1, x2, x3, x4, x5, x6, x7, x8, x9, x10, (x11, x12, x13), x14, x15)) ⟨p, A, c, B, c'⟩).toList
  simp only [eagg, EvC.et, ev, lines, e]
  rfl
def zero : Value := .agg EvC.ze
end Go.Proofs.Ytddoidcbpcmlaaa.OpGiv
