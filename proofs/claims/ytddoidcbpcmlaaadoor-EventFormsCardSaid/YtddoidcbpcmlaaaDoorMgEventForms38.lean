/- Texts of this claim, merged: Opw, OpGid, PureEventForms. -/
import Derived.Test.YtddoidcbpcmlaaaDoorMgEventForms37
import Derived.Test.YtddoidcbpcmlaaaDoorMgEventForms17
import Derived.Test.YtddoidcbpcmlaaaDoorMgEventForms36
import Derived.Test.YtddoidcbpcmlaaaDoorMgEventForms32
import Derived.Test.YtddoidcbpcmlaaaDoorMgEventForms18
import Derived.Test.YtddoidcbpcmlaaaDoorMgEventForms29
/- What an argument's cells read as, with what the row says of its weight: no slice and no text is heavier than memory is. (By hand.) -/
namespace Go.Proofs.YtddoidcbpcmlaaaDoor.Opw
open Go.ChangeShapes Go.WideShapes Go.RowKit Go.Deep Go.Proofs.YtddoidcbpcmlaaaDoorW.PrintWords Go.Proofs.YtddoidcbpcmlaaaDoorW.PrintLast Go.Proofs.YtddoidcbpcmlaaaDoor.Op
set_option linter.unusedVariables false
set_option linter.unusedSimpArgs false
/-- Nothing of it is heavier than memory is. -/
def Wk {H : Type} (P : Program) (t : TypeId) (x : DataW H) : Prop := ∀ n, n ∈ x.weights P t → n ≤ reachBytes
/-- Whatever reads as type t, and is not too heavy, reads as kind d, and φ holds of what is read. -/
def Opw {α : Type} (P : Program) (t : TypeId) (d : Kd α) (φ : α → Prop) : Prop :=
 P.cellsOf t = d.sz ∧ ∀ {H : Type} {enc : TypeId × Value → H} {w : World} {base : Nat} {spare : Nat → Bool} {held : Bool} {fuel : Nat} {cs : List Value} {x : DataW H × List MemPlace}, DataW.trod enc P w base spare held fuel t cs = some x → Wk P t x.1 → ∃ z : α, d.K w z cs ∧ φ z
theorem Opw.of {α : Type} {P : Program} {t : TypeId} {d : Kd α} {φ : α → Prop} (h : Opk P t d φ) : Opw P t d (fun _ => True) := ⟨h.1, fun hx _ => by obtain ⟨z, k, _⟩ := h.2 hx; exact ⟨z, k, trivial⟩⟩
theorem Opw.imp {α : Type} {P : Program} {t : TypeId} {d : Kd α} {φ ψ : α → Prop} (h : Opw P t d φ) (hi : ∀ x, φ x → ψ x) : Opw P t d ψ := ⟨h.1, fun hx hw => by obtain ⟨z, k, q⟩ := h.2 hx hw; exact ⟨z, k, hi z q⟩⟩
theorem all_mem {H : Type} {P : Program} {e : TypeId} {n : Nat} {x : DataW H} : ∀ {l : List (DataW H)}, x ∈ l → n ∈ x.weights P e → n ∈ DataW.weightsAll P e l
 | [], h, _ => by cases h
 | y :: l, h, hn => by
  simp only [DataW.weightsAll]
  rcases List.mem_cons.1 h with rfl | h
  ·exact List.mem_append_left _ hn
  ·exact List.mem_append_right _ (all_mem h hn)
theorem each_mem {H : Type} {P : Program} {n : Nat} {x : DataW H} {t : TypeId} : ∀ {ts : List TypeId} {l : List (DataW H)} {i : Nat}, ts[i]? = some t → l[i]? = some x → n ∈ x.weights P t → n ∈ DataW.weightsEach P ts l
 | [], _, i, h, _, _ => by simp at h
 | _ :: _, [], i, _, h, _ => by simp at h
 | a :: ts, y :: l, 0, h, h2, hn => by
  simp only [List.getElem?_cons_zero, Option.some.injEq] at h h2
  subst h h2
  simp only [DataW.weightsEach]
  exact List.mem_append_left _ hn
 | a :: ts, y :: l, i + 1, h, h2, hn => by
  simp only [List.getElem?_cons_succ] at h h2
  simp only [DataW.weightsEach]
  exact List.mem_append_right _ (each_mem h h2 hn)
theorem Opw.slice {α : Type} [Inhabited α] {P : Program} {t e : TypeId} {d : Kd α} {φ : α → Prop} (b : Nat) (ht : P.underlying t = some (.slice e)) (hC : P.cellsOf t = 1) (hb : P.bytesOf e = b) (he : Opw P e d φ) : Opw P t (Kd.slice e d) (fun l => l.length * b ≤ reachBytes ∧ ∀ x ∈ l, φ x) :=
 ⟨hC, fun {H enc w base spare held fuel cs x} h hw => by
  rcases open_slice ht h with ⟨rfl, _⟩ | ⟨a, len, cap, m, n, D, Pl, rfl, _, hl, hm, hmm, hxx, hi⟩
  ·exact ⟨[], ⟨none, 0, rfl, Nat.le_refl _, C_nil _ _ _⟩, by simp, fun x hx => by cases hx⟩
  ·obtain ⟨hsz, hop⟩ := he
   have hle : len ≤ m := by rw [hmm]; split <;> omega
   have hwt : ∀ n, n ∈ ((DataW.slice ((List.range len).map D) ((List.range (m - len)).map fun j => D (len + j)) : DataW H)).weights P t → n ≤ reachBytes := by rw [hxx] at hw; exact hw
   simp only [DataW.weights, ht] at hwt
   have each : ∀ i, i < len → ∃ z : α, φ z ∧ ∃ cs', d.K w z cs' ∧ ∀ j u, cs'[j]? = some u → w.cell? (a.add (i * d.sz + j)) = some u := by
    intro i hil
    obtain ⟨cs', hc, ht'⟩ := hi i (by omega)
    obtain ⟨z, hz, hφ⟩ := hop ht' (fun q hq => hwt q (List.mem_cons_of_mem _ (List.mem_append_left _ (all_mem (List.mem_map.2 ⟨i, List.mem_range.2 hil, rfl⟩) hq))))
    rw [hsz] at hc
    obtain ⟨_, hcl, hat⟩ := World.cells?_some hc
    refine ⟨z, hφ, cs', hz, fun j u hu => ?_⟩
    have hj : j < d.sz := by rw [← hcl]; exact (List.getElem?_eq_some_iff.1 hu).1
    rw [← Go.Deep.add_add, hat j hj, hu]
   obtain ⟨xs, hxs⟩ := choose_lt each
   have hlen : len ≤ 9223372036854775807 := by unfold maxLen at hm; omega
   have hC0 := C_of d w a len hlen xs (fun i hi' => (hxs i hi').2)
   have hl0 : ((List.range len).map xs).length = len := by simp
   have hwl := hwt _ List.mem_cons_self
   rw [List.length_map, List.length_range, hb] at hwl
   refine ⟨(List.range len).map xs, ⟨some a, cap, by rw [hl0], by rw [hl0]; exact hl, by rw [hl0]; exact hC0⟩, by rw [hl0]; exact Nat.le_trans (Nat.mul_le_mul_right _ (Nat.le_add_right _ _)) hwl, fun x hx => ?_⟩
   obtain ⟨i, hi', rfl⟩ := List.mem_map.1 hx
   exact (hxs i (List.mem_range.1 hi')).1⟩
/-- A struct's fields from a place on. -/
structure Flw {α : Type} (P : Program) (fs : List Field) (o : Nat) (d : Kd α) (φ : α → Prop) : Prop where
 get : ∀ {H : Type} {enc : TypeId × Value → H} {w : World} {base : Nat} {spare : Nat → Bool} {held : Bool} {cs : List Value}, cs.length = o + d.sz → (∀ f ∈ fs, ∃ (n : Nat) (y : DataW H × List MemPlace), DataW.trod enc P w base spare held n f.type ((cs.drop f.offset).take (P.cellsOf f.type)) = some y ∧ Wk P f.type y.1) → ∃ z : α, d.K w z (cs.drop o) ∧ φ z
theorem Flw.last {α : Type} {P : Program} {f : Field} {o : Nat} {d : Kd α} {φ : α → Prop} (ho : f.offset = o) (hf : Opw P f.type d φ) : Flw P [f] o d φ := by
 constructor
 intro H enc w base spare held cs hl h
 obtain ⟨n, y, hy, hw⟩ := h f (by simp)
 rw [ho, hf.1] at hy
 have e : (cs.drop o).take d.sz = cs.drop o := List.take_of_length_le (by rw [List.length_drop]; omega)
 rw [e] at hy
 exact hf.2 hy hw
theorem Flw.cons {α β : Type} {P : Program} {f : Field} {r : List Field} {o : Nat} {a : Kd α} {b : Kd β} {φ : α → Prop} {ψ : β → Prop} (ho : f.offset = o) (hf : Opw P f.type a φ) (hr : Flw P r (o + a.sz) b ψ) : Flw P (f :: r) o (Kd.pair a b) (fun x => φ x.1 ∧ ψ x.2) := by
 constructor
 intro H enc w base spare held cs hl h
 obtain ⟨n, y, hy, hw⟩ := h f (by simp)
 rw [ho, hf.1] at hy
 obtain ⟨z0, k0, p0⟩ := hf.2 hy hw
 have hl' : cs.length = (o + a.sz) + b.sz := by rw [hl]; show o + (a.sz + b.sz) = _; omega
 obtain ⟨z1, k1, p1⟩ := hr.get hl' (fun g hg => h g (by simp [hg]))
 refine ⟨(z0, z1), ⟨(cs.drop o).take a.sz, cs.drop (o + a.sz), ?_, k0, k1⟩, p0, p1⟩
 rw [← List.drop_drop, List.take_append_drop]
theorem Opw.struct {α : Type} {P : Program} {t : TypeId} {fs : Array Field} {d : Kd α} {φ : α → Prop} (ht : P.underlying t = some (.struct fs)) (hC : P.cellsOf t = d.sz) (hf : Flw P fs.toList 0 d φ) : Opw P t d φ :=
 ⟨hC, fun {H enc w base spare held fuel cs x} h hw => by
  obtain ⟨xs, n, _, hxx, hlen, hxl, hg⟩ := DataW.trod_struct ht h
  have hwt : ∀ q, q ∈ ((DataW.agg (xs.map (·.1)) : DataW H)).weights P t → q ≤ reachBytes := by rw [hxx] at hw; exact hw
  simp only [DataW.weights, ht] at hwt
  obtain ⟨z, k, p⟩ := hf.get (w := w) (cs := cs) (by rw [hlen, hC]; omega) (fun f hm => by
   obtain ⟨i, hi, rfl⟩ := List.getElem_of_mem hm
   have e := hg i fs.toList[i] (by simp)
   have hx : i < xs.length := by rw [hxl]; simpa using hi
   rw [List.getElem?_eq_getElem hx] at e
   exact ⟨n, _, e, fun q hq => hwt q (each_mem (i := i) (t := (fs.toList[i]).type) (x := xs[i].1) (by rw [List.getElem?_map, List.getElem?_eq_getElem hi]; rfl) (by simp [hx]) hq)⟩)
  exact ⟨z, by simpa using k, p⟩⟩
theorem Opw.iso {α β : Type} {P : Program} {t : TypeId} {d : Kd α} {φ : α → Prop} (f : β → α) (g : α → β) (hfg : ∀ x, f (g x) = x) (h : Opw P t d φ) : Opw P t (Kd.iso d f) (fun x => φ (f x)) :=
 ⟨h.1, fun hx hw => by
  obtain ⟨z, k, p⟩ := h.2 hx hw
  exact ⟨g z, by show d.K _ (f (g z)) _; rw [hfg]; exact k, by show φ (f (g z)); rw [hfg]; exact p⟩⟩
end Go.Proofs.YtddoidcbpcmlaaaDoor.Opw
/- What an argument of events of the document's reads as, its texts weighed, too. (By hand; out of OpGid.) -/
namespace Go.Proofs.YtddoidcbpcmlaaaDoor.OpGid
open Go.ChangeShapes Go.WideShapes Go.RowKit Go.Deep Go.Proofs.YtddoidcbpcmlaaaDoorW.PrintWords Go.Proofs.YtddoidcbpcmlaaaDoorW.PrintLast Go.Proofs.YtddoidcbpcmlaaaDoor.M Go.Proofs.YtddoidcbpcmlaaaDoor.Op Go.Proofs.YtddoidcbpcmlaaaDoor.Opw Go.Proofs.YtddoidcbpcmlaaaDoor.Ru
open Go.Proofs.YtddoidcbpcmlaaaDoor.SetC (Sv Sp sagg OkS)
open Go.Proofs.YtddoidcbpcmlaaaDoor.EvC (Ev Ep eagg)
open Go.Proofs.YtddoidcbpcmlaaaDoor.FewL (DL DP LineOk thL OkG RuOk)
open Go.Proofs.YtddoidcbpcmlaaaDoor.LinR (SzD)
set_option linter.unusedVariables false
set_option linter.unusedSimpArgs false
instance : Inhabited S101 := ⟨z101⟩
instance : Inhabited S23 := ⟨z23⟩
instance : Inhabited S46 := ⟨z46⟩
instance : Inhabited S72 := ⟨z72⟩
instance : Inhabited S51 := ⟨z51⟩
abbrev T1 {α : Type} : α → Prop := fun _ => True
theorem oInt : Opw Tryd.prog 3 (Kd.int .i64) T1 := Opw.of (Opk.int Tryd.underlying3 (by kernel_rfl))
theorem oI64 : Opw Tryd.prog 2 (Kd.int .i64) T1 := Opw.of (Opk.int Tryd.underlying2 (by kernel_rfl))
theorem oBool : Opw Tryd.prog 4 Kd.bool T1 := Opw.of (Opk.bool Tryd.underlying4 (by kernel_rfl))
/-- A text as light as memory lets it be. -/
abbrev Li (s : ByteArray) : Prop := s.size ≤ 140737488355328
theorem oStr : Opw Tryd.prog 9 Kd.string Li := ⟨by kernel_rfl, fun {H enc w base spare held fuel cs x} h hw => by
 obtain ⟨s, rfl, hx, _⟩ := DataW.trod_string Tryd.underlying9 h
 refine ⟨s, rfl, ?_⟩
 have hl := hw s.data.toList.length (by rw [hx]; simp [DataW.weights])
 rw [Array.length_toList] at hl
 simp only [reachBytes] at hl
 show s.data.size ≤ 140737488355328
 omega⟩
set_option maxRecDepth 100000 in
theorem oW : Opw Tryd.prog 101 k101 T1 :=
 (Opw.iso (d := Kd.pair (Kd.int .i64) (Kd.int .i64)) (fun x : S101 => (x.f0, x.f1)) (fun x : Int × Int => (⟨x.1, x.2⟩ : S101)) (fun _ => rfl) (Opw.struct (P := Tryd.prog) Tryd.underlying101 (by kernel_rfl) (Flw.cons rfl oInt (Flw.last rfl oInt)))).imp (fun _ _ => trivial)
abbrev dT : Kd (Int × Int × ByteArray) := Kd.pair (Kd.int .i64) (Kd.pair (Kd.int .i64) Kd.string)
set_option maxRecDepth 100000 in
theorem oT0 : Opw Tryd.prog 23 dT (fun x => Li x.2.2) := (Opw.struct (P := Tryd.prog) Tryd.underlying23 (by kernel_rfl) (Flw.cons rfl oInt (Flw.cons rfl oI64 (Flw.last rfl oStr)))).imp (fun _ h => h.2.2)
theorem oT : Opw Tryd.prog 23 k23 (fun x => Li x.f2) := (Opw.iso (fun x : S23 => (x.f0, x.f1, x.f2)) (fun x : Int × Int × ByteArray => (⟨x.1, x.2.1, x.2.2⟩ : S23)) (fun _ => rfl) oT0).imp (fun _ h => h)
set_option maxRecDepth 100000 in
theorem oP : Opw Tryd.prog 46 k46 (fun x => Li x.f0 ∧ Li x.f4 ∧ Li x.f5) :=
 (Opw.iso (d := Kd.pair Kd.string (Kd.pair (Kd.int .i64) (Kd.pair (Kd.int .i64) (Kd.pair Kd.bool (Kd.pair Kd.string Kd.string))))) (fun x : S46 => (x.f0, x.f1, x.f2, x.f3, x.f4, x.f5)) (fun x : ByteArray × Int × Int × Bool × ByteArray × ByteArray => (⟨x.1, x.2.1, x.2.2.1, x.2.2.2.1, x.2.2.2.2.1, x.2.2.2.2.2⟩ : S46)) (fun _ => rfl)
  (Opw.struct (P := Tryd.prog) Tryd.underlying46 (by kernel_rfl) (Flw.cons rfl oStr (Flw.cons rfl oInt (Flw.cons rfl oInt (Flw.cons rfl oBool (Flw.cons rfl oStr (Flw.last rfl oStr)))))))).imp (fun _ h => ⟨h.1, h.2.2.2.2.1, h.2.2.2.2.2⟩)
theorem oLS : Opw Tryd.prog 70 (Kd.slice 9 Kd.string) (fun l => l.length * 16 ≤ reachBytes ∧ ∀ x ∈ l, Li x) := Opw.slice 16 Tryd.underlying70 (by kernel_rfl) (by kernel_rfl) oStr
theorem oLI : Opw Tryd.prog 24 (Kd.slice 3 (Kd.int .i64)) (fun l => l.length * 8 ≤ reachBytes) := (Opw.slice 8 Tryd.underlying24 (by kernel_rfl) (by kernel_rfl) oInt).imp (fun _ h => h.1)
theorem oLW : Opw Tryd.prog 25 (Kd.slice 101 k101) (fun l => l.length * 16 ≤ reachBytes) := (Opw.slice 16 Tryd.underlying25 (by kernel_rfl) (by kernel_rfl) oW).imp (fun _ h => h.1)
theorem oLT : Opw Tryd.prog 28 (Kd.slice 23 k23) (fun l => ∀ t ∈ l, Li t.f2) := (Opw.slice 32 Tryd.underlying28 (by kernel_rfl) (by kernel_rfl) oT).imp (fun _ h => h.2)
theorem oLP : Opw Tryd.prog 31 (Kd.slice 46 k46) (fun l => ∀ x ∈ l, Li x.f0 ∧ Li x.f4 ∧ Li x.f5) := (Opw.slice 72 Tryd.underlying31 (by kernel_rfl) (by kernel_rfl) oP).imp (fun _ h => h.2)
set_option maxRecDepth 100000 in
theorem oPa : Opw Tryd.prog 72 k72 (fun x => Li x.f0 ∧ x.f1.length * 16 ≤ reachBytes ∧ ∀ v ∈ x.f1, Li v) :=
 (Opw.iso (d := Kd.pair Kd.string (Kd.slice 9 Kd.string)) (fun x : DP => (x.f0, x.f1)) (fun x : ByteArray × List ByteArray => (⟨x.1, x.2⟩ : DP)) (fun _ => rfl) (Opw.struct (P := Tryd.prog) Tryd.underlying72 (by kernel_rfl) (Flw.cons rfl oStr (Flw.last rfl oLS)))).imp (fun _ h => h)
theorem oLPa : Opw Tryd.prog 49 (Kd.slice 72 k72) (fun l => l.length * 40 ≤ reachBytes ∧ ∀ x ∈ l, Li x.f0 ∧ x.f1.length * 16 ≤ reachBytes ∧ ∀ v ∈ x.f1, Li v) := Opw.slice 40 Tryd.underlying49 (by kernel_rfl) (by kernel_rfl) oPa
theorem lineOk (x : DL) (h : x.f1.length * 40 ≤ reachBytes ∧ ∀ p ∈ x.f1, p.f1.length * 16 ≤ reachBytes) : LineOk x := by
 simp only [reachBytes] at h
 exact ⟨by omega, fun p hp => by have := h.2 p hp; omega⟩
set_option maxRecDepth 100000 in
theorem oL : Opw Tryd.prog 51 k51 (fun x => LineOk x ∧ SzD x) :=
 (Opw.iso (d := Kd.pair Kd.string (Kd.pair (Kd.slice 72 k72) Kd.string)) (fun x : DL => (x.f0, x.f1, x.f2)) (fun x : ByteArray × List DP × ByteArray => (⟨x.1, x.2.1, x.2.2⟩ : DL)) (fun _ => rfl) (Opw.struct (P := Tryd.prog) Tryd.underlying51 (by kernel_rfl) (Flw.cons rfl oStr (Flw.cons rfl oLPa (Flw.last rfl oStr))))).imp (fun x h => ⟨lineOk x ⟨h.2.1.1, fun p hp => (h.2.1.2 p hp).2.1⟩, h.1, h.2.2, fun p hp => ⟨(h.2.1.2 p hp).1, (h.2.1.2 p hp).2.2⟩⟩)
theorem oLL : Opw Tryd.prog 32 (Kd.slice 51 k51) (fun l => ∀ x ∈ l, LineOk x ∧ SzD x) := (Opw.slice 56 Tryd.underlying32 (by kernel_rfl) (by kernel_rfl) oL).imp (fun _ h => h.2)
abbrev LI : Kd (List Int) := Kd.slice 3 (Kd.int .i64)
abbrev LW : Kd (List S101) := Kd.slice 101 k101
abbrev LT : Kd (List S23) := Kd.slice 23 k23
abbrev dR := Kd.pair (Kd.int .i64) (Kd.pair (Kd.int .i64) (Kd.pair (Kd.int .i64) (Kd.pair dT (Kd.pair (Kd.bool) (Kd.pair (Kd.int .i64) (Kd.pair (LI) (Kd.pair (LI) (Kd.pair (LI) (Kd.pair (LW) (Kd.pair (LI) (Kd.pair (LI) (Kd.pair (LI) (Kd.pair (LI) (LI))))))))))))))
abbrev VR := Int × Int × Int × (Int × Int × ByteArray) × Bool × Int × List Int × List Int × List Int × List S101 × List Int × List Int × List Int × List Int × List Int
def ru (x : VR) : Ru := ⟨x.1, x.2.1, x.2.2.1, x.2.2.2.1.1, x.2.2.2.1.2.1, x.2.2.2.1.2.2, x.2.2.2.2.1, x.2.2.2.2.2.1, x.2.2.2.2.2.2.1, x.2.2.2.2.2.2.2.1, x.2.2.2.2.2.2.2.2.1, x.2.2.2.2.2.2.2.2.2.1, x.2.2.2.2.2.2.2.2.2.2.1, x.2.2.2.2.2.2.2.2.2.2.2.1, x.2.2.2.2.2.2.2.2.2.2.2.2.1, x.2.2.2.2.2.2.2.2.2.2.2.2.2.1, x.2.2.2.2.2.2.2.2.2.2.2.2.2.2⟩
set_option maxRecDepth 100000 in
theorem oR : Opw Tryd.prog 27 dR (fun x => RuOk (ru x) ∧ Li (ru x).a5) := by
 have h : ∃ φ, (∀ x : VR, φ x → RuOk (ru x) ∧ Li (ru x).a5) ∧ Opw Tryd.prog 27 dR φ := ⟨_, fun x hx => ?_, Opw.struct (P := Tryd.prog) Tryd.underlying27 (by kernel_rfl)
  (Flw.cons rfl oInt (Flw.cons rfl oInt (Flw.cons rfl oInt (Flw.cons rfl oT0 (Flw.cons rfl oBool (Flw.cons rfl oInt (Flw.cons rfl oLI (Flw.cons rfl oLI (Flw.cons rfl oLI (Flw.cons rfl oLW (Flw.cons rfl oLI (Flw.cons rfl oLI (Flw.cons rfl oLI (Flw.cons rfl oLI (Flw.last rfl oLI)))))))))))))))⟩
 ·obtain ⟨φ, hφ, h1⟩ := h
  exact h1.imp hφ
 ·obtain ⟨_, _, _, h3, _, _, h6, h7, h8, h9, h10, h11, h12, h13, h14⟩ := hx
  simp only [reachBytes] at h6 h7 h8 h9 h10 h11 h12 h13 h14
  refine ⟨⟨by show x.2.2.2.2.2.2.2.2.2.1.length ≤ _; omega, fun j => ?_⟩, h3⟩
  match j with
  | 0 => show x.2.2.2.2.2.2.1.length ≤ _; omega
  | 1 => show x.2.2.2.2.2.2.2.1.length ≤ _; omega
  | 2 => show x.2.2.2.2.2.2.2.2.1.length ≤ _; omega
  | 3 => show x.2.2.2.2.2.2.2.2.2.2.1.length ≤ _; omega
  | 4 => show x.2.2.2.2.2.2.2.2.2.2.2.1.length ≤ _; omega
  | 5 => show x.2.2.2.2.2.2.2.2.2.2.2.2.1.length ≤ _; omega
  | 6 => show x.2.2.2.2.2.2.2.2.2.2.2.2.2.1.length ≤ _; omega
  | n + 7 => show x.2.2.2.2.2.2.2.2.2.2.2.2.2.2.length ≤ _; omega
theorem formR {w : World} {x : VR} {cs : List Value} (h : dR.K w x cs) : ∃ p : Rp, cs = (agg (ru x) p).toList ∧ Ok (ru x) p w := by
 obtain ⟨x0, x1, x2, ⟨x3, x4, x5⟩, x6, x7, x8, x9, x10, x11, x12, x13, x14, x15, x16⟩ := x
 obtain ⟨a0, b0, rfl, e0, a1, b1, rfl, e1, a2, b2, rfl, e2, a3, b3, rfl, ⟨a4, b4, rfl, e4, a5, b5, rfl, e5, e6⟩, a6, b6, rfl, e7, a7, b7, rfl, e8, a8, b8, rfl, e9, a9, b9, rfl, e10, a10, b10, rfl, e11, a11, b11, rfl, e12, a12, b12, rfl, e13, a13, b13, rfl, e14, a14, b14, rfl, e15, a15, b15, rfl, e16, e17⟩ := h
 change _ = [_] at e0 e1 e2 e4 e5 e6 e7 e8
 subst e0 e1 e2 e4 e5 e6 e7 e8
 obtain ⟨A8, c8, rfl, d8, h8⟩ := e9
 obtain ⟨A9, c9, rfl, d9, h9⟩ := e10
 obtain ⟨A10, c10, rfl, d10, h10⟩ := e11
 obtain ⟨A11, c11, rfl, d11, h11⟩ := e12
 obtain ⟨A12, c12, rfl, d12, h12⟩ := e13
 obtain ⟨A13, c13, rfl, d13, h13⟩ := e14
 obtain ⟨A14, c14, rfl, d14, h14⟩ := e15
 obtain ⟨A15, c15, rfl, d15, h15⟩ := e16
 obtain ⟨A16, c16, rfl, d16, h16⟩ := e17
 exact ⟨⟨A8, c8, A9, c9, A10, c10, A11, c11, A12, c12, A13, c13, A14, c14, A15, c15, A16, c16⟩, rfl, ⟨h8, d8, h9, d9, h10, d10, h11, d11, h12, d12, h13, d13, h14, d14, h15, d15, h16, d16⟩⟩
abbrev dS := Kd.pair dT (Kd.pair Kd.bool (Kd.pair dR (Kd.pair LT LT)))
abbrev VS := (Int × Int × ByteArray) × Bool × VR × List S23 × List S23
def sv (x : VS) : Sv := ⟨⟨x.1.1, x.1.2.1, x.1.2.2⟩, x.2.1, ru x.2.2.1, x.2.2.2.1, x.2.2.2.2⟩
set_option maxRecDepth 100000 in
theorem oS : Opw Tryd.prog 30 dS (fun x => RuOk (sv x).r ∧ Li (sv x).r.a5 ∧ Li (sv x).s.f2 ∧ (∀ t ∈ (sv x).ds, Li t.f2) ∧ ∀ t ∈ (sv x).bs, Li t.f2) :=
 (Opw.struct (P := Tryd.prog) Tryd.underlying30 (by kernel_rfl) (Flw.cons rfl oT0 (Flw.cons rfl oBool (Flw.cons rfl oR (Flw.cons rfl oLT (Flw.last rfl oLT)))))).imp (fun x h => ⟨h.2.2.1.1, h.2.2.1.2, h.1, h.2.2.2.1, h.2.2.2.2⟩)
theorem formS {w : World} {x : VS} {cs : List Value} (h : dS.K w x cs) : ∃ p : Sp, cs = (sagg (sv x) p).toList ∧ OkS (sv x) p w := by
 obtain ⟨⟨x0, x1, x2⟩, x3, x4, x5, x6⟩ := x
 obtain ⟨a0, b0, rfl, ⟨a1, b1, rfl, e1, a2, b2, rfl, e2, e3⟩, a3, b3, rfl, e4, a4, b4, rfl, e5, a5, b5, rfl, e6, e7⟩ := h
 change _ = [_] at e1 e2 e3 e4
 subst e1 e2 e3 e4
 obtain ⟨p, rfl, hp⟩ := formR e5
 obtain ⟨A, c, rfl, d, hA⟩ := e6
 obtain ⟨B, c', rfl, d', hB⟩ := e7
 exact ⟨⟨p, A, c, B, c'⟩, rfl, ⟨hp, hA, d, hB, d'⟩⟩
abbrev d := Kd.pair Kd.string (Kd.pair (Kd.int .i64) (Kd.pair (Kd.int .i64) (Kd.pair dS (Kd.pair (Kd.int .i64) (Kd.pair Kd.string (Kd.pair Kd.string (Kd.pair (Kd.int .i64) (Kd.pair Kd.string (Kd.pair (Kd.slice 46 k46) (Kd.pair Kd.bool (Kd.pair dT (Kd.pair Kd.bool (Kd.slice 51 k51)))))))))))))
abbrev V := ByteArray × Int × Int × VS × Int × ByteArray × ByteArray × Int × ByteArray × List S46 × Bool × (Int × Int × ByteArray) × Bool × List DL
def lines (x : V) : List DL := x.2.2.2.2.2.2.2.2.2.2.2.2.2
def ev (x : V) : Ev := ⟨x.1, x.2.1, x.2.2.1, sv x.2.2.2.1, x.2.2.2.2.1, x.2.2.2.2.2.1, x.2.2.2.2.2.2.1, x.2.2.2.2.2.2.2.1, x.2.2.2.2.2.2.2.2.1, x.2.2.2.2.2.2.2.2.2.1, x.2.2.2.2.2.2.2.2.2.2.1, ⟨x.2.2.2.2.2.2.2.2.2.2.2.1.1, x.2.2.2.2.2.2.2.2.2.2.2.1.2.1, x.2.2.2.2.2.2.2.2.2.2.2.1.2.2⟩, x.2.2.2.2.2.2.2.2.2.2.2.2.1, (lines x).map thL⟩
/-- No text of the event is heavier than memory. -/
structure Lig (v : Ev) (l : List DL) : Prop where
 uid : Li v.uid
 a5 : Li v.set.r.a5
 st : Li v.set.s.f2
 ds : ∀ t ∈ v.set.ds, Li t.f2
 bs : ∀ t ∈ v.set.bs, Li t.f2
 sum : Li v.sum
 com : Li v.com
 org : Li v.org
 ps : ∀ x ∈ v.ps, Li x.f0 ∧ Li x.f4 ∧ Li x.f5
 part : Li v.part.f2
 ex : ∀ x ∈ l, SzD x
def Ph (x : V) : Prop := RuOk (ev x).set.r ∧ (∀ y ∈ lines x, LineOk y) ∧ Lig (ev x) (lines x)
set_option maxRecDepth 100000 in
theorem op : Opw Tryd.prog 34 d Ph :=
 (Opw.struct (P := Tryd.prog) Tryd.underlying34 (by kernel_rfl) (Flw.cons rfl oStr (Flw.cons rfl oInt (Flw.cons rfl oI64 (Flw.cons rfl oS (Flw.cons rfl oI64 (Flw.cons rfl oStr (Flw.cons rfl oStr (Flw.cons rfl oInt (Flw.cons rfl oStr (Flw.cons rfl oLP (Flw.cons rfl oBool (Flw.cons rfl oT0 (Flw.cons rfl oBool (Flw.last rfl oLL)))))))))))))))|>.imp (fun x h => by
  obtain ⟨h0, h1, h2, h3, h4, h5, h6, h7, h8, h9, h10, h11, h12, h13⟩ := h
  obtain ⟨s1, s2, s3, s4, s5⟩ := h3
  exact ⟨s1, fun y hy => (h13 y hy).1, ⟨h0, s2, s3, s4, s5, h5, h6, h8, h9, h11, fun y hy => (h13 y hy).2⟩⟩)
theorem form {w : World} {x : V} {cs : List Value} (h : d.K w x cs) : ∃ p : Ep, cs = (eagg (ev x) p).toList ∧ OkG (ev x) (lines x) p w := by
 obtain ⟨x0, x1, x2, x3, x4, x5, x6, x7, x8, x9, x10, ⟨x11, x12, x13⟩, x14, x15⟩ := x
 obtain ⟨a0, b0, rfl, e0, a1, b1, rfl, e1, a2, b2, rfl, e2, a3, b3, rfl, e3, a4, b4, rfl, e4, a5, b5, rfl, e5, a6, b6, rfl, e6, a7, b7, rfl, e7, a8, b8, rfl, e8, a9, b9, rfl, e9, a10, b10, rfl, e10, a11, b11, rfl, ⟨a12, b12, rfl, e12, a13, b13, rfl, e13, e14⟩, a15, b15, rfl, e15, e16⟩ := h
 change _ = [_] at e0 e1 e2 e4 e5 e6 e7 e8 e10 e12 e13 e14 e15
 subst e0 e1 e2 e4 e5 e6 e7 e8 e10 e12 e13 e14 e15
 obtain ⟨p, rfl, hp⟩ := formS e3
 obtain ⟨A, c, rfl, dA, hA⟩ := e9
 obtain ⟨B, c', rfl, dB, hB⟩ := e16
 refine ⟨⟨p, A, c, B, c'⟩, ?_, ⟨hp, hA, dA, hB, dB, rfl⟩⟩
 have e : (x15.map thL).length = x15.length := List.length_map ..
 show _ = (eagg (ev (x0, x1, x2, x3, x4, x5, x6, x7, x8, x9, x10, (x11, x12, x13), x14, x15)) ⟨p, A, c, B, c'⟩).toList
 simp only [eagg, EvC.et, ev, lines, e]
 rfl
def zero : Value := .agg EvC.ze
end Go.Proofs.YtddoidcbpcmlaaaDoor.OpGid
/- The law EventForms walked: the program's judgement of an event is the document's. (Written by gen_evforms.py.) -/
namespace Go.Proofs.YtddoidcbpcmlaaaDoor.Pure
open Go.RowKit Go.Proofs.YtddoidcbpcmlaaaDoorW.PrintWords Go.Proofs.YtddoidcbpcmlaaaDoorW.PrintLast Go.Proofs.YtddoidcbpcmlaaaDoor.M Go.Proofs.YtddoidcbpcmlaaaDoor.Fr Go.Proofs.YtddoidcbpcmlaaaDoor.Ru
open Go.Proofs.YtddoidcbpcmlaaaDoor.SetC (sagg)
open Go.Proofs.YtddoidcbpcmlaaaDoor.EvC (Ev Ep eagg OkE)
open Go.Proofs.YtddoidcbpcmlaaaDoor.Cln (Tabs)
open Go.Proofs.YtddoidcbpcmlaaaDoor.FewL (DL LineOk thL OkG RuOk few18 FewQ)
open Go.Proofs.YtddoidcbpcmlaaaDoor.Ths (ThQ theirs)
set_option linter.unusedVariables false
set_option linter.unusedSimpArgs false
theorem ev_aw : trystlaw18_awake.f 20 = some true := by kernel_rfl
theorem ev_awake (w : World) : Calls Tryd.prog 4 #[] w fun e w' => e = .returned (.bool true) ∧ Below w.heap.size w w' := trystlaw18_awake.calls 20 true w ev_aw
theorem szG : (Tryd.prog.info? 34).map (·.size) = some 38 := by kernel_rfl
theorem xG {ρ : Operand → Value} {o : Oper} (q : Operand) (g : Nat) (v : Ev) (p : Ep) (hop : o.op = .load 34 q) (hp : ρ q = .pointer (some ⟨g, 0, none⟩)) (w : World) (hg : w.heap[g]? = some (.cells (eagg v p) 34 (0, 0))) : (execOp ρ o).run Tryd.prog w = .ok (.value (.agg (eagg v p))) w := by
 unfold execOp
 rw [hop]
 show (do pure (Next.value (← Instr.loadAt 34 (ρ q))) : Sem Next).run Tryd.prog w = _
 rw [hp]
 simp only [Instr.loadAt, Instr.sureAddr, Sem.run_bind, Sem.run_pure, Result.andThen_ok, run_loadVar_row w g 34 34 (eagg v p) (0, 0) _ hg Tryd.underlying34 rfl szG]
theorem sizes {v : Ev} {l : List DL} (hv : v.ex = l.map thL) (h : OpGid.Lig v l) (h1 : RecC.Small v.set.r) (h5 : l.length ≤ 80) : FormD.Sz v l := by
 have r := h1.2
 have r0 : v.set.r.l8.length ≤ 1000000 := r 0 (by omega)
 have r1 : v.set.r.l9.length ≤ 1000000 := r 1 (by omega)
 have r2 : v.set.r.l10.length ≤ 1000000 := r 2 (by omega)
 have r3 : v.set.r.l12.length ≤ 1000000 := r 3 (by omega)
 have r4 : v.set.r.l13.length ≤ 1000000 := r 4 (by omega)
 have r5 : v.set.r.l14.length ≤ 1000000 := r 5 (by omega)
 have r6 : v.set.r.l15.length ≤ 1000000 := r 6 (by omega)
 have r7 : v.set.r.l16.length ≤ 1000000 := r 7 (by omega)
 have r8 := h1.1
 have up : ∀ {s : ByteArray}, s.size ≤ 140737488355328 → s.size ≤ 9223372036854775807 := fun h => by omega
 exact ⟨⟨up h.uid, ⟨up h.st, fun t ht => up (h.ds t ht), fun t ht => up (h.bs t ht), up h.a5, by unfold SetF.tm; omega⟩, by unfold UnF.ls; omega, up h.sum, up h.com, up h.org, fun q hq => ⟨up (h.ps q hq).1, up (h.ps q hq).2.1, up (h.ps q hq).2.2⟩, up h.part, by rw [hv, List.length_map]; omega, fun x hx => by
  rw [hv] at hx
  obtain ⟨y, hy, rfl⟩ := List.mem_map.1 hx
  obtain ⟨g1, g2, g3⟩ := h.ex y hy
  refine ⟨up g1, up g2, fun q hq => ?_⟩
  obtain ⟨z, hz, rfl⟩ := List.mem_map.1 hq
  exact ⟨up (g3 z hz).1, fun u hu => up ((g3 z hz).2 u hu)⟩⟩, h.sum, h.com, h.ex⟩
def Tefl : Bool × List (List Nat × List Nat) := (true, [([], []), ([0], [0]), ([1, 1], [1]), ([], []), ([3, 2], [3]), ([2, 4], [2, 4]), ([5, 4, 0, 1, 2, 3, 4, 5], [5])])
def Befl : List Nat := [0, 1, 3, 0, 15, 31, 63]
theorem tabefl : rtab .any (opsOf Tryd.f3 3) = Tefl := by kernel_rfl
theorem bitsefl : waitsOk Tefl.2 Befl = true := by kernel_rfl
set_option maxHeartbeats 8000000 in
set_option maxRecDepth 100000 in
theorem EventForms_calls0 (v : Ev) (l : List DL) (p : Ep) (w : World) (ok : OkG v l p w) (hr : RuOk v.set.r) (hl : ∀ x ∈ l, LineOk x) (hz : OpGid.Lig v l) (hT : Tabs w) :
  Calls Tryd.prog 3 #[.agg (eagg v p)] w fun e w' => e = .returned (.bool true) ∧ Below w.heap.size w w' := by
 have OK := Aside0.mk ok; have HR := Aside0.mk hr; have HL := Aside0.mk hl; have HZ := Aside0.mk hz; have HT := Aside0.mk hT
 clear ok hr hl hz hT
 go_enter Tryd.func3, Tryd.ntmps3
 go_upto_region 1 with fail
 obtain ⟨w0, hw0, z0⟩ : ∃ w0, w0 = w.alloc (.cells (eagg v p) 34 (0, 0)) ∧ w0.heap[w.heap.size]? = some (.cells (eagg v p) 34 (0, 0)) ∧ Below w.heap.size w w0 := ⟨_, rfl, blk_new _ _, below_alloc (Below.refl _ _) _⟩
 have KG := Aside0.mk z0.1; have HB := Aside0.mk z0.2
 rw [← hw0]
 clear hw0 z0
 go_wp2_with fail
 refine (ev_awake w0).mono ?_
 rintro q w1 ⟨rfl, hb⟩
 replace KG := Aside0.mk (blk_below KG.out hb); replace HB := Aside0.mk (below_then HB.out HB.out.size hb)
 clear hb
 go_wp2_with ((with_reducible refine gate_ (.load 34 (.tmp 1)) rfl ?_); (try (refine gate_guard (by rfl) ?_; dsimp only)); refine Kd.event_run rfl (xG (.tmp 1) w.heap.size v p rfl rfl _ KG.out) ?_)
 refine (few18 v l p w1 (OK.out.below HB.out) HR.out HL.out).mono ?_
 rintro q w2 ⟨b, rfl, hbb, hb⟩
 have FW := Aside0.mk hbb
 replace KG := Aside0.mk (blk_below KG.out hb); replace HB := Aside0.mk (below_then HB.out HB.out.size hb)
 clear hb hbb
 cases b with
 | false =>
  go_wp2_with fail
  refine (ev_awake w2).mono ?_
  rintro q w3 ⟨rfl, hb⟩
  replace HB := Aside0.mk (below_then HB.out HB.out.size hb)
  clear hb
  go_wp2_with fail
  go_ret
  exact ⟨rfl, HB.out⟩
 | true =>
 obtain ⟨f1, f2, f3, f4, f5⟩ := FW.out rfl
 have SZ := Aside0.mk (sizes OK.out.hv HZ.out f1 f5)
 have F4 := Aside0.mk f4; have F5 := Aside0.mk f5
 clear f1 f2 f3 f4 f5 FW
 go_upto_region 3 with fail
 replace HB := Aside0.mk (below_drew1 HB.out)
 have KD := Aside0.mk (blk_drew KG.out)
 refine start_ (n := 7) (S := fun w' => w'.heap[w.heap.size]? = some (.cells (eagg v p) 34 (0, 0))) (ds := []) (tt 7 0) (by kernel_rfl) rfl rfl KD.out (fun hHeld => ?_)
 refine with_tabW tabefl bitsefl (fun HT_ HW_ => ?_)
 generalize w2.drew = wd_ at HB hHeld ⊢
 refine take_ (i := 0) (N := some 11) (v := .agg (eagg v p)) (a' := ?_) (tt 7 1) rfl rfl (take_ofW HT_.out HW_.out (by kernel_rfl)) (fun _ _ _ h => h) (Or.inl ⟨by rfl, fun w' hs => xG (.tmp 1) w.heap.size v p rfl rfl w' hs⟩) hHeld ?_ ?_
 rotate_left
 ·simp only [Act.put, sA, sB, sC, i64_w, i32_w]
  rfl
 refine take_ (i := 3) (N := some 14) (v := .agg (eagg v p)) (a' := ?_) #[true, false, false, true, false, false, false] rfl rfl (take_ofW HT_.out HW_.out (by kernel_rfl)) (fun _ _ _ h => h) (Or.inl ⟨by rfl, fun w' hs => xG (.tmp 1) w.heap.size v p rfl rfl w' hs⟩) hHeld ?_ ?_
 rotate_left
 ·simp only [Act.put, sA, sB, sC, i64_w, i32_w]
  rfl
 refine one_ (i := 1) (N := some 12) #[true, true, false, true, false, false, false] rfl rfl (one_of HT_.out (by kernel_rfl)) (by decide) (fun K hK => ?_)
 refine goes_ Tryd.func7 (by kernel_rfl) rfl #[.agg (eagg v p)] (by rfl) rfl rfl (by (try simp only [List.map_toArray, List.map_cons, List.map_nil]); first | done | rfl) ?_
 refine (theirs v l p _ (OK.out.below HB.out) (by have := F4.out; omega) (by have := F5.out; omega) HL.out).mono ?_
 rintro q wq1 ⟨A5, c5, A6, c6, rfl, oT, _, _, hb⟩
 refine ⟨_, rfl, ?_⟩
 have OT := Aside0.mk oT
 replace HB := Aside0.mk (below_then HB.out HB.out.size hb)
 refine hK.out _ _ (blk_below hHeld hb) (fun hHeld => ?_)
 clear hK K
 refine norm_ (a' := ?_) ?_ ?_
 rotate_left
 ·show Act.put _ (some 12) _ = _
  simp only [Act.put, sA, sB, sC, i64_w, i32_w]
  rfl
 refine one_ (i := 2) (N := some 13) (tt 7 4) rfl rfl (one_of HT_.out (by kernel_rfl)) (by decide) (fun K hK => ?_)
 refine goes_ Tryd.func6 (by kernel_rfl) rfl #[.agg (eagg v ⟨p.sp, A5, c5, A6, c6⟩)] (by rfl) rfl rfl (by (try simp only [List.map_toArray, List.map_cons, List.map_nil]); first | done | rfl) ?_
 refine (EvF.formed v ⟨p.sp, A5, c5, A6, c6⟩ wq1 OT.out SZ.out.e (HT.out.below HB.out)).mono ?_
 rintro q wq2 ⟨rfl, hb⟩
 refine ⟨_, rfl, ?_⟩
 replace HB := Aside0.mk (below_then HB.out HB.out.size hb)
 refine hK.out _ _ (blk_below hHeld hb) (fun hHeld => ?_)
 clear hK K
 refine norm_ (a' := ?_) ?_ ?_
 rotate_left
 ·show Act.put _ (some 13) _ = _
  simp only [Act.put, sA, sB, sC, i64_w, i32_w]
  rfl
 refine one_ (i := 4) (N := some 15) (tt 7 5) rfl rfl (one_of HT_.out (by kernel_rfl)) (by decide) (fun K hK => ?_)
 refine goes_ Tryd.func8 (by kernel_rfl) rfl #[.agg (eagg v p)] (by rfl) rfl rfl (by (try simp only [List.map_toArray, List.map_cons, List.map_nil]); first | done | rfl) ?_
 refine (FormD.formed v l p wq2 (OK.out.below HB.out) SZ.out).mono ?_
 rintro q wq3 ⟨rfl, hb⟩
 refine ⟨_, rfl, ?_⟩
 replace HB := Aside0.mk (below_then HB.out HB.out.size hb)
 refine hK.out _ _ (blk_below hHeld hb) (fun hHeld => ?_)
 clear hK K
 refine norm_ (a' := ?_) ?_ ?_
 rotate_left
 ·show Act.put _ (some 15) _ = _
  simp only [Act.put, sA, sB, sC, i64_w, i32_w]
  rfl
 refine pu 5 (some 16) (tt 7 6) HT_ ?_
 refine pu 6 (some 2) (tt 7 7) HT_ ?_
 refine done_ (done_of HT_.out (by kernel_rfl)) ?_
 clear HT_ HW_
 go_wp2_with fail
 go_ret
 exact ⟨by simp, HB.out⟩
theorem EventForms_calls (cs : Array Value) (x : OpGid.V) (w : World) (hK : OpGid.d.K w x cs.toList) (hP : OpGid.Ph x) (hT : Tabs w) :
  Calls Tryd.prog 3 #[.agg cs] w fun e w' => e = .returned (.bool true) ∧ Below w.heap.size w w' := by
 obtain ⟨p, e, ok⟩ := OpGid.form hK
 obtain rfl : cs = eagg (OpGid.ev x) p := Array.toList_inj.1 e
 exact EventForms_calls0 _ _ p w ok hP.1 hP.2.1 hP.2.2 hT
end Go.Proofs.YtddoidcbpcmlaaaDoor.Pure
