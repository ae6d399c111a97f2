/- Texts of this claim, merged: RecC, SetC, EvC, RefL, RefW, MexB. -/
import Derived.Test.YtddoidcbpcmlaaaDoorMgEventForms13
import Derived.Deep.MidRow
import Derived.Test.YtddoidcbpcmlaaaDoorMgEventForms1
import Derived.Test.YtddoidcbpcmlaaaDoorMgEventForms2
import Derived.Test.YtddoidcbpcmlaaaDoorMgEventForms4
import Derived.Test.YtddoidcbpcmlaaaDoorMgEventForms5
import Derived.Test.YtddoidcbpcmlaaaDoorMgEventForms6
import Derived.Test.YtddoidcbpcmlaaaDoorMgEventForms12
/- recur.Clone. (Written by gen_recc.py.) -/
namespace Go.Proofs.YtddoidcbpcmlaaaDoor.RecC
open Go.RowKit Go.Proofs.YtddoidcbpcmlaaaDoorW.PrintWords Go.Proofs.YtddoidcbpcmlaaaDoorW.PrintLast Go.Proofs.YtddoidcbpcmlaaaDoor.M Go.Proofs.YtddoidcbpcmlaaaDoor.Fr Go.Proofs.YtddoidcbpcmlaaaDoor.Clo Go.Proofs.YtddoidcbpcmlaaaDoor.Ru Go.Proofs.YtddoidcbpcmlaaaDoor.RecL
open Go.Proofs.YtddoidcbpcmlaaaDoor.LinC (twoB agree_set fr_set)
set_option linter.unusedVariables false
set_option linter.unusedSimpArgs false
abbrev LI : Kd (List Int) := Kd.slice 3 (Kd.int .i64)
abbrev LW : Kd (List S101) := Kd.slice 101 k101
/-- A rule's lists of numbers, and where they stand. -/
def LN (r : Ru) : Nat → List Int
 | 0 => r.l8
 | 1 => r.l9
 | 2 => r.l10
 | 3 => r.l12
 | 4 => r.l13
 | 5 => r.l14
 | 6 => r.l15
 | _ => r.l16
def offF : Nat → Nat
 | 0 => 8
 | 1 => 9
 | 2 => 10
 | 3 => 12
 | 4 => 13
 | 5 => 14
 | 6 => 15
 | _ => 16
/-- The rule's block between two rounds: the lists before i are of its own. -/
def Mid2 (w0 : World) (n B : Nat) (r : Ru) (i : Nat) (w : World) : Prop := ∃ cs : Array Value, w.heap[B]? = some (.cells cs 27 (0, 0)) ∧ cs.size = 17 ∧
 (cs[0]? = some (.int .i64 r.a0) ∧ cs[1]? = some (.int .i64 r.a1) ∧ cs[2]? = some (.int .i64 r.a2) ∧ cs[3]? = some (.int .i64 r.a3) ∧ cs[4]? = some (.int .i64 r.a4) ∧ cs[5]? = some (.string r.a5) ∧ cs[6]? = some (.bool r.a6) ∧ cs[7]? = some (.int .i64 r.a7)) ∧
 (∃ v, cs[11]? = some v ∧ LW.K w0 r.l11 [v]) ∧ ∀ j, j < 8 → ∃ v, cs[offF j]? = some v ∧ (j < i → Fr LI n w (LN r j) [v]) ∧ (i ≤ j → LI.K w0 (LN r j) [v])
theorem off_ne {i j : Nat} (hi : i < 8) (hj : j < 8) (h : i ≠ j) : offF i ≠ offF j ∧ offF i ≠ 11 ∧ 8 ≤ offF i ∧ offF i < 17 := by
 have key : ∀ a : Fin 8, ∀ b : Fin 8, a.val ≠ b.val → offF a.val ≠ offF b.val ∧ offF a.val ≠ 11 ∧ 8 ≤ offF a.val ∧ offF a.val < 17 := by decide
 exact key ⟨i, hi⟩ ⟨j, hj⟩ h
theorem off_bd {i : Nat} (hi : i < 8) : offF i ≠ 11 ∧ 8 ≤ offF i ∧ offF i < 17 := by
 have key : ∀ a : Fin 8, offF a.val ≠ 11 ∧ 8 ≤ offF a.val ∧ offF a.val < 17 := by decide
 exact key ⟨i, hi⟩
theorem Mid2.below {w0 w w1 : World} {n B : Nat} {r : Ru} {i : Nat} (h : Mid2 w0 n B r i w) (hb : Below w.heap.size w w1) : Mid2 w0 n B r i w1 := by
 obtain ⟨cs, h1, h2, h3, h4, h5⟩ := h
 refine ⟨cs, blk_below h1 hb, h2, h3, h4, fun j hj => ?_⟩
 obtain ⟨v, e1, e2, e3⟩ := h5 j hj
 exact ⟨v, e1, fun q => (e2 q).below hb, e3⟩
theorem Mid2.step {w0 w : World} {n B : Nat} {r : Ru} {i : Nat} {v : Value} (h : Mid2 w0 n B r i w) (hi : i < 8) (hB : B < n) (hv : Fr LI n w (LN r i) [v]) : Mid2 w0 n B r (i + 1) (w.setCell ⟨B, offF i, none⟩ v) := by
 obtain ⟨cs, h1, h2, ⟨c0, c1, c2, c3, c4, c5, c6, c7⟩, ⟨vw, c11, kw⟩, h5⟩ := h
 obtain ⟨o1, o2, o3⟩ := off_bd hi
 have ne : ∀ {k : Nat}, k ≠ offF i → (cs.setIfInBounds (offF i) v)[k]? = cs[k]? := fun {k} hk => Array.getElem?_setIfInBounds_ne (fun e => hk e.symm)
 refine ⟨_, blk_set h1 (offF i) v, by simpa using h2, ⟨?_, ?_, ?_, ?_, ?_, ?_, ?_, ?_⟩, ⟨vw, ?_, kw⟩, fun j hj => ?_⟩
 ·rw [ne (by omega)]; exact c0
 ·rw [ne (by omega)]; exact c1
 ·rw [ne (by omega)]; exact c2
 ·rw [ne (by omega)]; exact c3
 ·rw [ne (by omega)]; exact c4
 ·rw [ne (by omega)]; exact c5
 ·rw [ne (by omega)]; exact c6
 ·rw [ne (by omega)]; exact c7
 ·rw [ne (by omega)]; exact c11
 ·obtain ⟨u, e1, e2, e3⟩ := h5 j hj
  by_cases c : j = i
  ·subst c
   exact ⟨v, Array.getElem?_setIfInBounds_self_of_lt (by omega), fun _ => fr_set hv _ _ hB, fun q => by omega⟩
  ·exact ⟨u, by rw [ne (off_ne hj hi c).1]; exact e1, fun q => fr_set (e2 (by omega)) _ _ hB, fun q => e3 (by omega)⟩
/-- What a clone's lists read as in every world that agrees from n on. -/
structure OkF (r : Ru) (p : Rp) (n : Nat) (w : World) : Prop where
 h : ∀ w', Agree n w w' → Ok r p w'
theorem fr_open {α : Type} {d : Kd α} {e n : Nat} {w : World} {xs : List α} {v : Value} (h : Fr (Kd.slice e d) n w xs [v]) : ∃ A c, v = .slice A xs.length c ∧ xs.length ≤ c ∧ ∀ w', Agree n w w' → Kd.C d w' A xs.length xs := by
 obtain ⟨A, c, e1, h1, h2⟩ := Fr.K h
 obtain rfl := (List.cons.inj e1).1
 refine ⟨A, c, rfl, h1, fun w' hw => ?_⟩
 obtain ⟨A2, c2, e2, _, h3⟩ := h w' hw
 have e3 := (List.cons.inj e2).1
 injection e3 with e4 e5 e6
 rw [e4]; exact h3
theorem Mid2.done {w0 w : World} {n B : Nat} {r : Ru} {v : Value} (h : Mid2 w0 n B r 8 w) (hB : B < n) (hv : Fr LW n w r.l11 [v]) : ∃ p : Rp, (w.setCell ⟨B, 11, none⟩ v).heap[B]? = some (obj r p) ∧ OkF r p n (w.setCell ⟨B, 11, none⟩ v) := by
 obtain ⟨cs, h1, h2, ⟨c0, c1, c2, c3, c4, c5, c6, c7⟩, _, h5⟩ := h
 obtain ⟨A11, q11, rfl, d11, f11⟩ := fr_open hv
 have g : ∀ j, j < 8 → ∃ A c, cs[offF j]? = some (.slice A (LN r j).length c) ∧ (LN r j).length ≤ c ∧ ∀ w', Agree n w w' → Kd.C (Kd.int .i64) w' A (LN r j).length (LN r j) := fun j hj => by
  obtain ⟨u, e1, e2, _⟩ := h5 j hj
  obtain ⟨A, c, rfl, e3, e4⟩ := fr_open (e2 hj)
  exact ⟨A, c, e1, e3, e4⟩
 obtain ⟨A8, q8, k8, d8, f8⟩ := g 0 (by omega); obtain ⟨A9, q9, k9, d9, f9⟩ := g 1 (by omega); obtain ⟨A10, q10, k10, d10, f10⟩ := g 2 (by omega); obtain ⟨A12, q12, k12, d12, f12⟩ := g 3 (by omega)
 obtain ⟨A13, q13, k13, d13, f13⟩ := g 4 (by omega); obtain ⟨A14, q14, k14, d14, f14⟩ := g 5 (by omega); obtain ⟨A15, q15, k15, d15, f15⟩ := g 6 (by omega); obtain ⟨A16, q16, k16, d16, f16⟩ := g 7 (by omega)
 have ne : ∀ {k : Nat}, k ≠ 11 → (cs.setIfInBounds 11 (.slice A11 r.l11.length q11))[k]? = cs[k]? := fun {k} hk => Array.getElem?_setIfInBounds_ne (fun e => hk e.symm)
 have e : cs.setIfInBounds 11 (.slice A11 r.l11.length q11) = agg r ⟨A8, q8, A9, q9, A10, q10, A11, q11, A12, q12, A13, q13, A14, q14, A15, q15, A16, q16⟩ := by
  apply Array.ext_getElem?
  intro k
  match k with
  | 0 => rw [ne (by omega)]; exact c0
  | 1 => rw [ne (by omega)]; exact c1
  | 2 => rw [ne (by omega)]; exact c2
  | 3 => rw [ne (by omega)]; exact c3
  | 4 => rw [ne (by omega)]; exact c4
  | 5 => rw [ne (by omega)]; exact c5
  | 6 => rw [ne (by omega)]; exact c6
  | 7 => rw [ne (by omega)]; exact c7
  | 8 => rw [ne (by omega)]; exact k8
  | 9 => rw [ne (by omega)]; exact k9
  | 10 => rw [ne (by omega)]; exact k10
  | 11 => rw [Array.getElem?_setIfInBounds_self_of_lt (by omega)]; rfl
  | 12 => rw [ne (by omega)]; exact k12
  | 13 => rw [ne (by omega)]; exact k13
  | 14 => rw [ne (by omega)]; exact k14
  | 15 => rw [ne (by omega)]; exact k15
  | 16 => rw [ne (by omega)]; exact k16
  | k + 17 => rw [ne (by omega), Array.getElem?_eq_none (by omega), Array.getElem?_eq_none (by show 17 ≤ k + 17; omega)]
 have hb := blk_set h1 11 (.slice A11 r.l11.length q11)
 rw [e] at hb
 refine ⟨_, hb, ⟨fun w' hw => ?_⟩⟩
 have ag : Agree n w w' := fun k h1' h2' => (hw k h1' (by simpa [World.setCell] using h2')).trans (agree_set w ⟨B, 11, none⟩ _ hB k h1' h2')
 exact ⟨f8 w' ag, d8, f9 w' ag, d9, f10 w' ag, d10, f11 w' ag, d11, f12 w' ag, d12, f13 w' ag, d13, f14 w' ag, d14, f15 w' ag, d15, f16 w' ag, d16⟩
theorem ldR {r : Ru} {p : Rp} {w : World} {g : Nat} (h : w.heap[g]? = some (obj r p)) : (loadVar 27 ⟨g, 0, none⟩).run Tryd.prog w = .ok (.agg (agg r p)) w :=
 run_loadVar_row w g 27 27 (agg r p) (0, 0) _ h Tryd.underlying27 rfl (by kernel_rfl)
theorem xR {ρ : Operand → Value} {o : Oper} (q : Operand) (g : Nat) (r : Ru) (p : Rp) (hop : o.op = .load 27 q) (hp : ρ q = .pointer (some ⟨g, 0, none⟩)) (w : World) (hg : w.heap[g]? = some (obj r p)) : (execOp ρ o).run Tryd.prog w = .ok (.value (.agg (agg r p))) w := by
 unfold execOp
 rw [hop]
 show (do pure (Next.value (← Instr.loadAt 27 (ρ q))) : Sem Next).run Tryd.prog w = _
 rw [hp]
 simp only [Instr.loadAt, Instr.sureAddr, Sem.run_bind, Sem.run_pure, Result.andThen_ok, ldR hg]
theorem sz17 : (Tryd.prog.info? 27).map (·.size) = some 17 := by kernel_rfl
theorem results_cell {P : Program} {fn : Func} {tmps : Array Value} {t : TypeId} {k : Tmp} {g : Nat} {w : World} {v : Value} (hf : fn.results = #[.cell k t]) (hk : tmps.getD k undef = .pointer (some ⟨g, 0, none⟩)) (h : (loadVar t ⟨g, 0, none⟩).run P w = .ok v w) : (results fn tmps).run P w = .ok v w := by
 unfold results
 rw [hf]
 simp only [List.mapM_toArray, Array.mapM_eq_mapM_toList]
 rw [Array.getD_eq_getD_getElem?] at hk
 simp [hk, asAddr, h]
abbrev zr : Array Value := #[.int .i64 0, .int .i64 0, .int .i64 0, .int .i64 0, .int .i64 0, .string ⟨#[]⟩, .bool false, .int .i64 0, .slice none 0 0, .slice none 0 0, .slice none 0 0, .slice none 0 0, .slice none 0 0, .slice none 0 0, .slice none 0 0, .slice none 0 0, .slice none 0 0]
/-- No list is too long. -/
def Small (r : Ru) : Prop := r.l11.length ≤ 1000000 ∧ ∀ j, j < 8 → (LN r j).length ≤ 1000000
end Go.Proofs.YtddoidcbpcmlaaaDoor.RecC
/- set.Clone. (By hand.) -/
namespace Go.Proofs.YtddoidcbpcmlaaaDoor.SetC
open Go.RowKit Go.Proofs.YtddoidcbpcmlaaaDoorW.PrintWords Go.Proofs.YtddoidcbpcmlaaaDoorW.PrintLast Go.Proofs.YtddoidcbpcmlaaaDoor.M Go.Proofs.YtddoidcbpcmlaaaDoor.Fr Go.Proofs.YtddoidcbpcmlaaaDoor.Clo Go.Proofs.YtddoidcbpcmlaaaDoor.Ru
open Go.Proofs.YtddoidcbpcmlaaaDoor.LinC (twoB agree_set fr_set)
open Go.Proofs.YtddoidcbpcmlaaaDoor.RecC (OkF fr_open results_cell)
set_option linter.unusedVariables false
set_option linter.unusedSimpArgs false
theorem range_of {w : World} {B : Nat} {T : TypeId} {cs : Array Value} (h : w.heap[B]? = some (.cells cs T (0, 0))) (o : Nat) (vs rest : List Value) (e : cs.toList.drop o = vs ++ rest) : w.rangeAt B o vs := fun j v hv => by
 rw [blk_cell h, ← Array.getElem?_toList, ← List.getElem?_drop, e, List.getElem?_append_left (List.getElem?_eq_some_iff.1 hv).1]
 exact hv
/-- A set's values. -/
structure Sv where
 s : S23
 again : Bool
 r : Ru
 ds : List S23
 bs : List S23
/-- Where a set's lists lie. -/
structure Sp where
 p : Rp
 Ad : Option Addr
 cd : Nat
 Ab : Option Addr
 cb : Nat
abbrev hd (v : Sv) : List Value := [.int .i64 v.s.f0, .int .i64 v.s.f1, .string v.s.f2, .bool v.again]
abbrev sagg (v : Sv) (p : Sp) : Array Value := (hd v ++ ((agg v.r p.p).toList ++ [Value.slice p.Ad v.ds.length p.cd, Value.slice p.Ab v.bs.length p.cb])).toArray
structure OkS (v : Sv) (p : Sp) (w : World) : Prop where
 o : Ok v.r p.p w
 hd : Kd.C k23 w p.Ad v.ds.length v.ds
 dd : v.ds.length ≤ p.cd
 hb : Kd.C k23 w p.Ab v.bs.length v.bs
 db : v.bs.length ≤ p.cb
theorem OkS.below {v : Sv} {p : Sp} {w w' : World} (h : OkS v p w) (hb : Below w.heap.size w w') : OkS v p w' := ⟨h.o.below hb, Kd.C_below h.hd hb, h.dd, Kd.C_below h.hb hb, h.db⟩
def Small (v : Sv) : Prop := RecC.Small v.r ∧ v.ds.length ≤ 1000000 ∧ v.bs.length ≤ 1000000
theorem szS : (Tryd.prog.info? 38).map (·.size) = some 23 := by kernel_rfl
theorem ldS {v : Sv} {p : Sp} {w : World} {g : Nat} (h : w.heap[g]? = some (.cells (sagg v p) 38 (0, 0))) : (loadVar 38 ⟨g, 0, none⟩).run Tryd.prog w = .ok (.agg (sagg v p)) w :=
 run_loadVar_row w g 38 38 (sagg v p) (0, 0) _ h Tryd.underlying38 rfl szS
theorem xR {ρ : Operand → Value} {o : Oper} (q : Operand) (g : Nat) (v : Sv) (p : Sp) (hop : o.op = .load 38 q) (hp : ρ q = .pointer (some ⟨g, 0, none⟩)) (w : World) (hg : w.heap[g]? = some (.cells (sagg v p) 38 (0, 0))) : (execOp ρ o).run Tryd.prog w = .ok (.value (.agg (sagg v p))) w := by
 unfold execOp
 rw [hop]
 show (do pure (Next.value (← Instr.loadAt 38 (ρ q))) : Sem Next).run Tryd.prog w = _
 rw [hp]
 simp only [Instr.loadAt, Instr.sureAddr, Sem.run_bind, Sem.run_pure, Result.andThen_ok, ldS hg]
theorem oneR (r : Ru) (p : Rp) : (agg r p).all (·.oneCell') = true := by simp [agg, Value.oneCell']
theorem setB (v : Sv) (p : Sp) (A : Option Addr) (c : Nat) : (sagg v p).setIfInBounds 22 (.slice A v.bs.length c) = sagg v { p with Ab := A, cb := c } := by
 simp only [List.cons_append, List.nil_append, List.setIfInBounds_toArray, List.set_cons_zero, List.set_cons_succ]
 rfl
end Go.Proofs.YtddoidcbpcmlaaaDoor.SetC
/- event.Clone. (Written by gen_evc.py.) -/
namespace Go.Proofs.YtddoidcbpcmlaaaDoor.EvC
open Go.RowKit Go.Proofs.YtddoidcbpcmlaaaDoorW.PrintWords Go.Proofs.YtddoidcbpcmlaaaDoorW.PrintLast Go.Proofs.YtddoidcbpcmlaaaDoor.M Go.Proofs.YtddoidcbpcmlaaaDoor.Fr Go.Proofs.YtddoidcbpcmlaaaDoor.Clo Go.Proofs.YtddoidcbpcmlaaaDoor.Ru
open Go.Proofs.YtddoidcbpcmlaaaDoor.LinC (twoB agree_set fr_set)
open Go.Proofs.YtddoidcbpcmlaaaDoor.RecC (OkF fr_open results_cell)
open Go.Proofs.YtddoidcbpcmlaaaDoor.SetC (range_of Sv Sp sagg OkS)
set_option linter.unusedVariables false
set_option linter.unusedSimpArgs false
/-- An event's values. -/
structure Ev where
 uid : ByteArray
 seq : Int
 stamp : Int
 set : Sv
 len : Int
 sum : ByteArray
 com : ByteArray
 sta : Int
 org : ByteArray
 ps : List S46
 is : Bool
 part : S23
 fut : Bool
 ex : List S58
/-- Where an event's lists lie. -/
structure Ep where
 sp : Sp
 Ap : Option Addr
 cp : Nat
 Ax : Option Addr
 cx : Nat
abbrev e3 (v : Ev) : List Value := [.string v.uid, .int .i64 v.seq, .int .i64 v.stamp]
abbrev et (v : Ev) (p : Ep) : List Value := [.int .i64 v.len, .string v.sum, .string v.com, .int .i64 v.sta, .string v.org, Value.slice p.Ap v.ps.length p.cp, .bool v.is, .int .i64 v.part.f0, .int .i64 v.part.f1, .string v.part.f2, .bool v.fut, Value.slice p.Ax v.ex.length p.cx]
abbrev eagg (v : Ev) (p : Ep) : Array Value := (e3 v ++ ((sagg v.set p.sp).toList ++ et v p)).toArray
abbrev PE : Kd (List S46) := Kd.slice 46 k46
abbrev XE : Kd (List S58) := Kd.slice 58 k58
abbrev QE : Kd (List S79) := Kd.slice 79 k79
structure OkE (v : Ev) (p : Ep) (w : World) : Prop where
 s : OkS v.set p.sp w
 hp : Kd.C k46 w p.Ap v.ps.length v.ps
 dp : v.ps.length ≤ p.cp
 hx : Kd.C k58 w p.Ax v.ex.length v.ex
 dx : v.ex.length ≤ p.cx
theorem OkE.below {v : Ev} {p : Ep} {w w' : World} (h : OkE v p w) (hb : Below w.heap.size w w') : OkE v p w' := ⟨h.s.below hb, Kd.C_below h.hp hb, h.dp, Kd.C_below h.hx hb, h.dx⟩
def Small (v : Ev) : Prop := SetC.Small v.set ∧ v.ps.length ≤ 1000000 ∧ v.ex.length ≤ 1000000 ∧ ∀ l ∈ v.ex, l.f1.length ≤ 3518437208883 ∧ ∀ p ∈ l.f1, p.f1.length ≤ 8796093022208
theorem flatP {n : Nat} {w1 w : World} (x : S46) (cs : List Value) (h : k46.K w x cs) : Fr k46 n w1 x cs := by
 obtain rfl := k46_open h
 exact fun W _ => k46_mk W x
theorem szE : (Tryd.prog.info? 41).map (·.size) = some 38 := by kernel_rfl
abbrev ze : Array Value := #[.string ⟨#[]⟩, .int .i64 0, .int .i64 0, .int .i64 0, .int .i64 0, .string ⟨#[]⟩, .bool false, .int .i64 0, .int .i64 0, .int .i64 0, .int .i64 0, .int .i64 0, .string ⟨#[]⟩, .bool false, .int .i64 0, .slice none 0 0, .slice none 0 0, .slice none 0 0, .slice none 0 0, .slice none 0 0, .slice none 0 0, .slice none 0 0, .slice none 0 0, .slice none 0 0, .slice none 0 0, .slice none 0 0, .int .i64 0, .string ⟨#[]⟩, .string ⟨#[]⟩, .int .i64 0, .string ⟨#[]⟩, .slice none 0 0, .bool false, .int .i64 0, .int .i64 0, .string ⟨#[]⟩, .bool false, .slice none 0 0]
theorem ldE {v : Ev} {p : Ep} {w : World} {g : Nat} (h : w.heap[g]? = some (.cells (eagg v p) 41 (0, 0))) : (loadVar 41 ⟨g, 0, none⟩).run Tryd.prog w = .ok (.agg (eagg v p)) w :=
 run_loadVar_row w g 41 41 (eagg v p) (0, 0) _ h Tryd.underlying41 rfl szE
theorem xR {ρ : Operand → Value} {o : Oper} (q : Operand) (g : Nat) (v : Ev) (p : Ep) (hop : o.op = .load 41 q) (hp : ρ q = .pointer (some ⟨g, 0, none⟩)) (w : World) (hg : w.heap[g]? = some (.cells (eagg v p) 41 (0, 0))) : (execOp ρ o).run Tryd.prog w = .ok (.value (.agg (eagg v p))) w := by
 unfold execOp
 rw [hop]
 show (do pure (Next.value (← Instr.loadAt 41 (ρ q))) : Sem Next).run Tryd.prog w = _
 rw [hp]
 simp only [Instr.loadAt, Instr.sureAddr, Sem.run_bind, Sem.run_pure, Result.andThen_ok, ldE hg]
theorem oneE (v : Ev) (p : Ep) : (eagg v p).all (·.oneCell') = true := by simp [agg, Value.oneCell']
/-- The lines' row between two rounds: those before i have parameters of their own. -/
def Mid (w0 : World) (gr : Nat) (ls : List S58) (i : Nat) (w : World) : Prop := ∃ cells : Array Value, w.heap[gr]? = some (.cells cells 58 (0, 0)) ∧
 ∀ j l, ls[j]? = some l → ∃ v, cells[j * 3]? = some (.string l.f0) ∧ cells[j * 3 + 1]? = some v ∧ cells[j * 3 + 2]? = some (.string l.f2) ∧ (j < i → Fr QE (gr + 1) w l.f1 [v]) ∧ (i ≤ j → QE.K w0 l.f1 [v])
theorem Mid.below {w0 w w1 : World} {gr : Nat} {ls : List S58} {i : Nat} (h : Mid w0 gr ls i w) (hb : Below w.heap.size w w1) : Mid w0 gr ls i w1 := by
 obtain ⟨cells, h1, h2⟩ := h
 refine ⟨cells, blk_below h1 hb, fun j p hj => ?_⟩
 obtain ⟨v, e1, e2, e3, e4, e5⟩ := h2 j p hj
 exact ⟨v, e1, e2, e3, fun q => (e4 q).below hb, e5⟩
theorem Mid.far {w0 w : World} {gr : Nat} {ls : List S58} {i : Nat} (h : Mid w0 gr ls i w) (a : Addr) (u : Value) (ha : a.block < gr) : Mid w0 gr ls i (w.setCell a u) := by
 obtain ⟨cells, h1, h2⟩ := h
 refine ⟨cells, blk_far h1 (by omega) u, fun j p hj => ?_⟩
 obtain ⟨v, e1, e2, e3, e4, e5⟩ := h2 j p hj
 exact ⟨v, e1, e2, e3, fun q => fr_set (e4 q) a u (by omega), e5⟩
theorem Mid.step {w0 w : World} {gr : Nat} {ls : List S58} {i : Nat} {p : S58} {v : Value} (h : Mid w0 gr ls i w) (hp : ls[i]? = some p) (hv : Fr QE (gr + 1) w p.f1 [v]) :
  Mid w0 gr ls (i + 1) (((w.setCell ⟨gr, i * 3, none⟩ (.string p.f0)).setCell ⟨gr, i * 3 + 1, none⟩ v).setCell ⟨gr, i * 3 + 2, none⟩ (.string p.f2)) := by
 obtain ⟨cells, h1, h2⟩ := h
 have three : ∀ {x : List S79} {u : Value}, Fr QE (gr + 1) w x [u] → Fr QE (gr + 1) (((w.setCell ⟨gr, i * 3, none⟩ (.string p.f0)).setCell ⟨gr, i * 3 + 1, none⟩ v).setCell ⟨gr, i * 3 + 2, none⟩ (.string p.f2)) x [u] :=
  fun h => fr_set (fr_set (fr_set h _ _ (by show gr < gr + 1; omega)) _ _ (by show gr < gr + 1; omega)) _ _ (by show gr < gr + 1; omega)
 refine ⟨_, blk_set (blk_set (blk_set h1 (i * 3) (.string p.f0)) (i * 3 + 1) v) (i * 3 + 2) (.string p.f2), fun j q hj => ?_⟩
 obtain ⟨u, e1, e2, e3, e4, e5⟩ := h2 j q hj
 have hlt : i * 3 + 2 < cells.size := by obtain ⟨_, _, _, e, _⟩ := h2 i p hp; exact (Array.getElem?_eq_some_iff.1 e).1
 by_cases c : j = i
 ·subst c
  rw [hp] at hj
  cases hj
  refine ⟨v, ?_, ?_, ?_, fun _ => three hv, fun q => by omega⟩
  ·rw [Array.getElem?_setIfInBounds_ne (by omega), Array.getElem?_setIfInBounds_ne (by omega), Array.getElem?_setIfInBounds_self_of_lt (by omega)]
  ·rw [Array.getElem?_setIfInBounds_ne (by omega), Array.getElem?_setIfInBounds_self_of_lt (by simp; omega)]
  ·rw [Array.getElem?_setIfInBounds_self_of_lt (by simp; omega)]
 ·refine ⟨u, ?_, ?_, ?_, fun q => three (e4 (by omega)), fun q => e5 (by omega)⟩
  ·rw [Array.getElem?_setIfInBounds_ne (by omega), Array.getElem?_setIfInBounds_ne (by omega), Array.getElem?_setIfInBounds_ne (by omega)]; exact e1
  ·rw [Array.getElem?_setIfInBounds_ne (by omega), Array.getElem?_setIfInBounds_ne (by omega), Array.getElem?_setIfInBounds_ne (by omega)]; exact e2
  ·rw [Array.getElem?_setIfInBounds_ne (by omega), Array.getElem?_setIfInBounds_ne (by omega), Array.getElem?_setIfInBounds_ne (by omega)]; exact e3
theorem Mid.fr {w0 w : World} {gr c : Nat} {ls : List S58} (h : Mid w0 gr ls ls.length w) (hg : gr < w.heap.size) (hc : ls.length ≤ c) (hm : ls.length ≤ 1000000) : Fr XE gr w ls [.slice (some ⟨gr, 0, none⟩) ls.length c] :=
 Fr.slice hc (by omega) fun hp => by
  obtain ⟨cells, h1, h2⟩ := h
  refine ⟨_, rfl, Nat.le_refl _, hg, fun j p hj => ?_⟩
  obtain ⟨v, e1, e2, e3, e4, _⟩ := h2 j p hj
  have hlt := (List.getElem?_eq_some_iff.1 hj).1
  refine ⟨[.string p.f0, v, .string p.f2], rfl, Fr.iso (f := fun x : S58 => (x.f0, x.f1, x.f2)) (Fr.pair (c0 := [.string p.f0]) (c1 := [v, .string p.f2]) Fr.scalar (Fr.pair (c0 := [v]) (c1 := [.string p.f2]) ((e4 hlt).lower (by omega)) Fr.scalar)), fun q u hq => Row.cell (w0 := w0) (n0 := gr) (xs := ls) (d := k58) h1 ?_⟩
  match q, hq with
  | 0, hq => obtain rfl := Option.some.inj hq; exact e1
  | 1, hq => obtain rfl := Option.some.inj hq; exact e2
  | 2, hq => obtain rfl := Option.some.inj hq; exact e3
end Go.Proofs.YtddoidcbpcmlaaaDoor.EvC
/- trystref12.Lists: a rule's eight lists of numbers. (Written by gen_refl.py.) -/
namespace Go.Proofs.YtddoidcbpcmlaaaDoor.RefL
open Go.RowKit Go.Proofs.YtddoidcbpcmlaaaDoorW.PrintWords Go.Proofs.YtddoidcbpcmlaaaDoorW.PrintLast Go.Proofs.YtddoidcbpcmlaaaDoorW.PrintMore Go.Proofs.YtddoidcbpcmlaaaDoor.M
set_option linter.unusedVariables false
set_option linter.unusedSimpArgs false
set_option maxHeartbeats 2000000 in
set_option maxRecDepth 100000 in
theorem lists_ (a0 : Int) (a1 : Int) (a2 : Int) (a3 : Int) (a4 : Int) (a5 : ByteArray) (a6 : Bool) (a7 : Int) (A8 : Option Addr) (c8 : Nat) (l8 : List Int) (A9 : Option Addr) (c9 : Nat) (l9 : List Int) (A10 : Option Addr) (c10 : Nat) (l10 : List Int) (A11 : Option Addr) (c11 : Nat) (l11 : List S101) (A12 : Option Addr) (c12 : Nat) (l12 : List Int) (A13 : Option Addr) (c13 : Nat) (l13 : List Int) (A14 : Option Addr) (c14 : Nat) (l14 : List Int) (A15 : Option Addr) (c15 : Nat) (l15 : List Int) (A16 : Option Addr) (c16 : Nat) (l16 : List Int) (w : World) :
  Calls Tryd.prog 47 #[.agg #[.int .i64 a0, .int .i64 a1, .int .i64 a2, .int .i64 a3, .int .i64 a4, .string a5, .bool a6, .int .i64 a7, .slice A8 l8.length c8, .slice A9 l9.length c9, .slice A10 l10.length c10, .slice A11 l11.length c11, .slice A12 l12.length c12, .slice A13 l13.length c13, .slice A14 l14.length c14, .slice A15 l15.length c15, .slice A16 l16.length c16]] w fun e w' => e = .returned (.agg #[.slice A8 l8.length c8, .slice A9 l9.length c9, .slice A10 l10.length c10, .slice A12 l12.length c12, .slice A13 l13.length c13, .slice A14 l14.length c14, .slice A15 l15.length c15, .slice A16 l16.length c16]) ∧ Below w.heap.size w w' := by
 have HB := Aside0.mk (below_alloc (Below.refl w.heap.size w) (.cells #[.int .i64 a0, .int .i64 a1, .int .i64 a2, .int .i64 a3, .int .i64 a4, .string a5, .bool a6, .int .i64 a7, .slice A8 l8.length c8, .slice A9 l9.length c9, .slice A10 l10.length c10, .slice A11 l11.length c11, .slice A12 l12.length c12, .slice A13 l13.length c13, .slice A14 l14.length c14, .slice A15 l15.length c15, .slice A16 l16.length c16] 27 (0, 0)))
 go_enter Tryd.func47, Tryd.ntmps47
 go_wp2_with fail
 have k8 : ∀ ob, ((w.alloc (.cells #[.int .i64 a0, .int .i64 a1, .int .i64 a2, .int .i64 a3, .int .i64 a4, .string a5, .bool a6, .int .i64 a7, .slice A8 l8.length c8, .slice A9 l9.length c9, .slice A10 l10.length c10, .slice A11 l11.length c11, .slice A12 l12.length c12, .slice A13 l13.length c13, .slice A14 l14.length c14, .slice A15 l15.length c15, .slice A16 l16.length c16] 27 (0, 0))).alloc ob).cell? ⟨w.heap.size, 8, none⟩ = some (.slice A8 l8.length c8) := fun ob => pw_cell_below (below_alloc (Below.refl _ _) ob) ((blk_cell (blk_new w (.cells #[.int .i64 a0, .int .i64 a1, .int .i64 a2, .int .i64 a3, .int .i64 a4, .string a5, .bool a6, .int .i64 a7, .slice A8 l8.length c8, .slice A9 l9.length c9, .slice A10 l10.length c10, .slice A11 l11.length c11, .slice A12 l12.length c12, .slice A13 l13.length c13, .slice A14 l14.length c14, .slice A15 l15.length c15, .slice A16 l16.length c16] 27 (0, 0))) 8).trans rfl)
 have k9 : ∀ ob, ((w.alloc (.cells #[.int .i64 a0, .int .i64 a1, .int .i64 a2, .int .i64 a3, .int .i64 a4, .string a5, .bool a6, .int .i64 a7, .slice A8 l8.length c8, .slice A9 l9.length c9, .slice A10 l10.length c10, .slice A11 l11.length c11, .slice A12 l12.length c12, .slice A13 l13.length c13, .slice A14 l14.length c14, .slice A15 l15.length c15, .slice A16 l16.length c16] 27 (0, 0))).alloc ob).cell? ⟨w.heap.size, 9, none⟩ = some (.slice A9 l9.length c9) := fun ob => pw_cell_below (below_alloc (Below.refl _ _) ob) ((blk_cell (blk_new w (.cells #[.int .i64 a0, .int .i64 a1, .int .i64 a2, .int .i64 a3, .int .i64 a4, .string a5, .bool a6, .int .i64 a7, .slice A8 l8.length c8, .slice A9 l9.length c9, .slice A10 l10.length c10, .slice A11 l11.length c11, .slice A12 l12.length c12, .slice A13 l13.length c13, .slice A14 l14.length c14, .slice A15 l15.length c15, .slice A16 l16.length c16] 27 (0, 0))) 9).trans rfl)
 have k10 : ∀ ob, ((w.alloc (.cells #[.int .i64 a0, .int .i64 a1, .int .i64 a2, .int .i64 a3, .int .i64 a4, .string a5, .bool a6, .int .i64 a7, .slice A8 l8.length c8, .slice A9 l9.length c9, .slice A10 l10.length c10, .slice A11 l11.length c11, .slice A12 l12.length c12, .slice A13 l13.length c13, .slice A14 l14.length c14, .slice A15 l15.length c15, .slice A16 l16.length c16] 27 (0, 0))).alloc ob).cell? ⟨w.heap.size, 10, none⟩ = some (.slice A10 l10.length c10) := fun ob => pw_cell_below (below_alloc (Below.refl _ _) ob) ((blk_cell (blk_new w (.cells #[.int .i64 a0, .int .i64 a1, .int .i64 a2, .int .i64 a3, .int .i64 a4, .string a5, .bool a6, .int .i64 a7, .slice A8 l8.length c8, .slice A9 l9.length c9, .slice A10 l10.length c10, .slice A11 l11.length c11, .slice A12 l12.length c12, .slice A13 l13.length c13, .slice A14 l14.length c14, .slice A15 l15.length c15, .slice A16 l16.length c16] 27 (0, 0))) 10).trans rfl)
 have k12 : ∀ ob, ((w.alloc (.cells #[.int .i64 a0, .int .i64 a1, .int .i64 a2, .int .i64 a3, .int .i64 a4, .string a5, .bool a6, .int .i64 a7, .slice A8 l8.length c8, .slice A9 l9.length c9, .slice A10 l10.length c10, .slice A11 l11.length c11, .slice A12 l12.length c12, .slice A13 l13.length c13, .slice A14 l14.length c14, .slice A15 l15.length c15, .slice A16 l16.length c16] 27 (0, 0))).alloc ob).cell? ⟨w.heap.size, 12, none⟩ = some (.slice A12 l12.length c12) := fun ob => pw_cell_below (below_alloc (Below.refl _ _) ob) ((blk_cell (blk_new w (.cells #[.int .i64 a0, .int .i64 a1, .int .i64 a2, .int .i64 a3, .int .i64 a4, .string a5, .bool a6, .int .i64 a7, .slice A8 l8.length c8, .slice A9 l9.length c9, .slice A10 l10.length c10, .slice A11 l11.length c11, .slice A12 l12.length c12, .slice A13 l13.length c13, .slice A14 l14.length c14, .slice A15 l15.length c15, .slice A16 l16.length c16] 27 (0, 0))) 12).trans rfl)
 have k13 : ∀ ob, ((w.alloc (.cells #[.int .i64 a0, .int .i64 a1, .int .i64 a2, .int .i64 a3, .int .i64 a4, .string a5, .bool a6, .int .i64 a7, .slice A8 l8.length c8, .slice A9 l9.length c9, .slice A10 l10.length c10, .slice A11 l11.length c11, .slice A12 l12.length c12, .slice A13 l13.length c13, .slice A14 l14.length c14, .slice A15 l15.length c15, .slice A16 l16.length c16] 27 (0, 0))).alloc ob).cell? ⟨w.heap.size, 13, none⟩ = some (.slice A13 l13.length c13) := fun ob => pw_cell_below (below_alloc (Below.refl _ _) ob) ((blk_cell (blk_new w (.cells #[.int .i64 a0, .int .i64 a1, .int .i64 a2, .int .i64 a3, .int .i64 a4, .string a5, .bool a6, .int .i64 a7, .slice A8 l8.length c8, .slice A9 l9.length c9, .slice A10 l10.length c10, .slice A11 l11.length c11, .slice A12 l12.length c12, .slice A13 l13.length c13, .slice A14 l14.length c14, .slice A15 l15.length c15, .slice A16 l16.length c16] 27 (0, 0))) 13).trans rfl)
 have k14 : ∀ ob, ((w.alloc (.cells #[.int .i64 a0, .int .i64 a1, .int .i64 a2, .int .i64 a3, .int .i64 a4, .string a5, .bool a6, .int .i64 a7, .slice A8 l8.length c8, .slice A9 l9.length c9, .slice A10 l10.length c10, .slice A11 l11.length c11, .slice A12 l12.length c12, .slice A13 l13.length c13, .slice A14 l14.length c14, .slice A15 l15.length c15, .slice A16 l16.length c16] 27 (0, 0))).alloc ob).cell? ⟨w.heap.size, 14, none⟩ = some (.slice A14 l14.length c14) := fun ob => pw_cell_below (below_alloc (Below.refl _ _) ob) ((blk_cell (blk_new w (.cells #[.int .i64 a0, .int .i64 a1, .int .i64 a2, .int .i64 a3, .int .i64 a4, .string a5, .bool a6, .int .i64 a7, .slice A8 l8.length c8, .slice A9 l9.length c9, .slice A10 l10.length c10, .slice A11 l11.length c11, .slice A12 l12.length c12, .slice A13 l13.length c13, .slice A14 l14.length c14, .slice A15 l15.length c15, .slice A16 l16.length c16] 27 (0, 0))) 14).trans rfl)
 have k15 : ∀ ob, ((w.alloc (.cells #[.int .i64 a0, .int .i64 a1, .int .i64 a2, .int .i64 a3, .int .i64 a4, .string a5, .bool a6, .int .i64 a7, .slice A8 l8.length c8, .slice A9 l9.length c9, .slice A10 l10.length c10, .slice A11 l11.length c11, .slice A12 l12.length c12, .slice A13 l13.length c13, .slice A14 l14.length c14, .slice A15 l15.length c15, .slice A16 l16.length c16] 27 (0, 0))).alloc ob).cell? ⟨w.heap.size, 15, none⟩ = some (.slice A15 l15.length c15) := fun ob => pw_cell_below (below_alloc (Below.refl _ _) ob) ((blk_cell (blk_new w (.cells #[.int .i64 a0, .int .i64 a1, .int .i64 a2, .int .i64 a3, .int .i64 a4, .string a5, .bool a6, .int .i64 a7, .slice A8 l8.length c8, .slice A9 l9.length c9, .slice A10 l10.length c10, .slice A11 l11.length c11, .slice A12 l12.length c12, .slice A13 l13.length c13, .slice A14 l14.length c14, .slice A15 l15.length c15, .slice A16 l16.length c16] 27 (0, 0))) 15).trans rfl)
 have k16 : ∀ ob, ((w.alloc (.cells #[.int .i64 a0, .int .i64 a1, .int .i64 a2, .int .i64 a3, .int .i64 a4, .string a5, .bool a6, .int .i64 a7, .slice A8 l8.length c8, .slice A9 l9.length c9, .slice A10 l10.length c10, .slice A11 l11.length c11, .slice A12 l12.length c12, .slice A13 l13.length c13, .slice A14 l14.length c14, .slice A15 l15.length c15, .slice A16 l16.length c16] 27 (0, 0))).alloc ob).cell? ⟨w.heap.size, 16, none⟩ = some (.slice A16 l16.length c16) := fun ob => pw_cell_below (below_alloc (Below.refl _ _) ob) ((blk_cell (blk_new w (.cells #[.int .i64 a0, .int .i64 a1, .int .i64 a2, .int .i64 a3, .int .i64 a4, .string a5, .bool a6, .int .i64 a7, .slice A8 l8.length c8, .slice A9 l9.length c9, .slice A10 l10.length c10, .slice A11 l11.length c11, .slice A12 l12.length c12, .slice A13 l13.length c13, .slice A14 l14.length c14, .slice A15 l15.length c15, .slice A16 l16.length c16] 27 (0, 0))) 16).trans rfl)
 go_wp2_with fail
 refine bodyPost_ret (v := .agg #[.slice A8 l8.length c8, .slice A9 l9.length c9, .slice A10 l10.length c10, .slice A12 l12.length c12, .slice A13 l13.length c13, .slice A14 l14.length c14, .slice A15 l15.length c15, .slice A16 l16.length c16]) ?_ rfl ⟨rfl, below_alloc HB.out _⟩
 clear HB k8 k9 k10 k12 k13 k14 k15 k16
 simp [results, Tryd.f47, go_sem]

/-- How many numbers and days. -/
def sm (d : Nat) (l : List Nat) : Int := l.foldl (fun (a : Int) (n : Nat) => wrap64 (a + (n : Int))) (d : Int)
def few (d : Nat) (l : List Nat) : Bool := decide (sm d l ≤ 500)
set_option maxHeartbeats 4000000 in
set_option maxRecDepth 100000 in
theorem few0 (a0 : Int) (a1 : Int) (a2 : Int) (a3 : Int) (a4 : Int) (a5 : ByteArray) (a6 : Bool) (a7 : Int) (A8 : Option Addr) (c8 : Nat) (l8 : List Int) (A9 : Option Addr) (c9 : Nat) (l9 : List Int) (A10 : Option Addr) (c10 : Nat) (l10 : List Int) (A11 : Option Addr) (c11 : Nat) (l11 : List S101) (A12 : Option Addr) (c12 : Nat) (l12 : List Int) (A13 : Option Addr) (c13 : Nat) (l13 : List Int) (A14 : Option Addr) (c14 : Nat) (l14 : List Int) (A15 : Option Addr) (c15 : Nat) (l15 : List Int) (A16 : Option Addr) (c16 : Nat) (l16 : List Int) (f : Nat → Int) (hf : f 0 = (l11.length : Int)) (hf0 : f 1 = wrap64 (f 0 + (l8.length : Int))) (hf1 : f 2 = wrap64 (f 1 + (l9.length : Int))) (hf2 : f 3 = wrap64 (f 2 + (l10.length : Int))) (hf3 : f 4 = wrap64 (f 3 + (l12.length : Int))) (hf4 : f 5 = wrap64 (f 4 + (l13.length : Int))) (hf5 : f 6 = wrap64 (f 5 + (l14.length : Int))) (hf6 : f 7 = wrap64 (f 6 + (l15.length : Int))) (hf7 : f 8 = wrap64 (f 7 + (l16.length : Int))) (w : World) :
  Calls Tryd.prog 33 #[.agg #[.int .i64 a0, .int .i64 a1, .int .i64 a2, .int .i64 a3, .int .i64 a4, .string a5, .bool a6, .int .i64 a7, .slice A8 l8.length c8, .slice A9 l9.length c9, .slice A10 l10.length c10, .slice A11 l11.length c11, .slice A12 l12.length c12, .slice A13 l13.length c13, .slice A14 l14.length c14, .slice A15 l15.length c15, .slice A16 l16.length c16]] w fun e w' => e = .returned (.bool (decide (f 8 ≤ 500))) ∧ Below w.heap.size w w' := by
 have HF := Aside0.mk hf
 clear hf
 have HF0 := Aside0.mk hf0; clear hf0
 have HF1 := Aside0.mk hf1; clear hf1
 have HF2 := Aside0.mk hf2; clear hf2
 have HF3 := Aside0.mk hf3; clear hf3
 have HF4 := Aside0.mk hf4; clear hf4
 have HF5 := Aside0.mk hf5; clear hf5
 have HF6 := Aside0.mk hf6; clear hf6
 have HF7 := Aside0.mk hf7; clear hf7
 have hK0 : (w.alloc (.cells #[.int .i64 a0, .int .i64 a1, .int .i64 a2, .int .i64 a3, .int .i64 a4, .string a5, .bool a6, .int .i64 a7, .slice A8 l8.length c8, .slice A9 l9.length c9, .slice A10 l10.length c10, .slice A11 l11.length c11, .slice A12 l12.length c12, .slice A13 l13.length c13, .slice A14 l14.length c14, .slice A15 l15.length c15, .slice A16 l16.length c16] 27 (0, 0))).heap[w.heap.size]? = some (.cells #[.int .i64 a0, .int .i64 a1, .int .i64 a2, .int .i64 a3, .int .i64 a4, .string a5, .bool a6, .int .i64 a7, .slice A8 l8.length c8, .slice A9 l9.length c9, .slice A10 l10.length c10, .slice A11 l11.length c11, .slice A12 l12.length c12, .slice A13 l13.length c13, .slice A14 l14.length c14, .slice A15 l15.length c15, .slice A16 l16.length c16] 27 (0, 0)) := blk_new w _
 have HK := Aside0.mk hK0
 have HB := Aside0.mk (below_alloc (Below.refl w.heap.size w) (.cells #[.int .i64 a0, .int .i64 a1, .int .i64 a2, .int .i64 a3, .int .i64 a4, .string a5, .bool a6, .int .i64 a7, .slice A8 l8.length c8, .slice A9 l9.length c9, .slice A10 l10.length c10, .slice A11 l11.length c11, .slice A12 l12.length c12, .slice A13 l13.length c13, .slice A14 l14.length c14, .slice A15 l15.length c15, .slice A16 l16.length c16] 27 (0, 0)))
 clear hK0
 go_enter Tryd.func33, Tryd.ntmps33
 go_wp2_with fail
 generalize w.alloc (.cells #[.int .i64 a0, .int .i64 a1, .int .i64 a2, .int .i64 a3, .int .i64 a4, .string a5, .bool a6, .int .i64 a7, .slice A8 l8.length c8, .slice A9 l9.length c9, .slice A10 l10.length c10, .slice A11 l11.length c11, .slice A12 l12.length c12, .slice A13 l13.length c13, .slice A14 l14.length c14, .slice A15 l15.length c15, .slice A16 l16.length c16] 27 (0, 0)) = w0 at HK HB ⊢
 generalize hB : w.heap.size = B at HK ⊢
 refine (lists_ a0 a1 a2 a3 a4 a5 a6 a7 A8 c8 l8 A9 c9 l9 A10 c10 l10 A11 c11 l11 A12 c12 l12 A13 c13 l13 A14 c14 l14 A15 c15 l15 A16 c16 l16 w0).mono ?_
 rintro e w1 ⟨rfl, hb⟩
 replace HK := Aside0.mk (blk_below HK.out hb)
 replace HB := Aside0.mk (below_then HB.out HB.out.size hb)
 clear hb
 have k11 : ∀ ob, (w1.alloc ob).cell? ⟨B, 11, none⟩ = some (.slice A11 l11.length c11) := fun ob => pw_cell_below (below_alloc (Below.refl _ _) ob) ((blk_cell HK.out 11).trans rfl)
 have HA0 : (w1.alloc (.cells #[.slice A8 l8.length c8, .slice A9 l9.length c9, .slice A10 l10.length c10, .slice A12 l12.length c12, .slice A13 l13.length c13, .slice A14 l14.length c14, .slice A15 l15.length c15, .slice A16 l16.length c16] 81 (0, 0))).heap[w1.heap.size]? = some (.cells #[.slice A8 l8.length c8, .slice A9 l9.length c9, .slice A10 l10.length c10, .slice A12 l12.length c12, .slice A13 l13.length c13, .slice A14 l14.length c14, .slice A15 l15.length c15, .slice A16 l16.length c16] 81 (0, 0)) := blk_new w1 _
 have HA := Aside0.mk HA0
 clear HA0
 replace HB := Aside0.mk (below_alloc HB.out (.cells #[.slice A8 l8.length c8, .slice A9 l9.length c9, .slice A10 l10.length c10, .slice A12 l12.length c12, .slice A13 l13.length c13, .slice A14 l14.length c14, .slice A15 l15.length c15, .slice A16 l16.length c16] 81 (0, 0)))
 clear HK
 go_wp2_with fail
 generalize w1.alloc (.cells #[.slice A8 l8.length c8, .slice A9 l9.length c9, .slice A10 l10.length c10, .slice A12 l12.length c12, .slice A13 l13.length c13, .slice A14 l14.length c14, .slice A15 l15.length c15, .slice A16 l16.length c16] 81 (0, 0)) = w2 at HA HB ⊢
 generalize w1.heap.size = g at HA ⊢
 go_loopg [4, 11] 8 (fun kq vn vi w' => ∃ (i : Nat) (n x : Int), vn = .int .i64 n ∧ vi = .int .i64 x ∧ Aside0 (n = f i) ∧ Aside0 (x = (i : Int)) ∧ Aside0 (i + kq = 8) ∧ Aside0 (w'.heap[g]? = some (.cells #[.slice A8 l8.length c8, .slice A9 l9.length c9, .slice A10 l10.length c10, .slice A12 l12.length c12, .slice A13 l13.length c13, .slice A14 l14.length c14, .slice A15 l15.length c15, .slice A16 l16.length c16] 81 (0, 0))) ∧ Aside0 (Below w.heap.size w w'))
 case atStart => exact ⟨0, _, 0, rfl, rfl, ⟨HF.out.symm⟩, ⟨rfl⟩, ⟨rfl⟩, HA, HB⟩
 case round =>
  clear HA HB k11
  obtain ⟨i, n, x, rfl, rfl, HN, HX, HI, HA, HB⟩ := hrel
  cases gk with
  | zero =>
   obtain rfl : i = 8 := by have := HI.out; omega
   obtain rfl : x = 8 := HX.out
   go_wp2_with fail
   go_ret
   exact ⟨by rw [← HN.out]; rfl, hB ▸ HB.out⟩
  | succ k1 =>
   have hi : i = 0 ∨ i = 1 ∨ i = 2 ∨ i = 3 ∨ i = 4 ∨ i = 5 ∨ i = 6 ∨ i = 7 := by have := HI.out; omega
   rcases hi with rfl | rfl | rfl | rfl | rfl | rfl | rfl | rfl
   ·obtain rfl : x = 0 := HX.out
    have kk : wr.cell? ⟨g, 0, none⟩ = some (.slice A8 l8.length c8) := (blk_cell HA.out 0).trans rfl
    go_wp2_with fail
    go_roundg k1
    case measure => omega
    case rel => exact ⟨1, _, _, rfl, rfl, ⟨by rw [HN.out]; exact HF0.out.symm⟩, ⟨rfl⟩, ⟨by have := HI.out; omega⟩, HA, HB⟩
   ·obtain rfl : x = 1 := HX.out
    have kk : wr.cell? ⟨g, 1, none⟩ = some (.slice A9 l9.length c9) := (blk_cell HA.out 1).trans rfl
    go_wp2_with fail
    go_roundg k1
    case measure => omega
    case rel => exact ⟨2, _, _, rfl, rfl, ⟨by rw [HN.out]; exact HF1.out.symm⟩, ⟨rfl⟩, ⟨by have := HI.out; omega⟩, HA, HB⟩
   ·obtain rfl : x = 2 := HX.out
    have kk : wr.cell? ⟨g, 2, none⟩ = some (.slice A10 l10.length c10) := (blk_cell HA.out 2).trans rfl
    go_wp2_with fail
    go_roundg k1
    case measure => omega
    case rel => exact ⟨3, _, _, rfl, rfl, ⟨by rw [HN.out]; exact HF2.out.symm⟩, ⟨rfl⟩, ⟨by have := HI.out; omega⟩, HA, HB⟩
   ·obtain rfl : x = 3 := HX.out
    have kk : wr.cell? ⟨g, 3, none⟩ = some (.slice A12 l12.length c12) := (blk_cell HA.out 3).trans rfl
    go_wp2_with fail
    go_roundg k1
    case measure => omega
    case rel => exact ⟨4, _, _, rfl, rfl, ⟨by rw [HN.out]; exact HF3.out.symm⟩, ⟨rfl⟩, ⟨by have := HI.out; omega⟩, HA, HB⟩
   ·obtain rfl : x = 4 := HX.out
    have kk : wr.cell? ⟨g, 4, none⟩ = some (.slice A13 l13.length c13) := (blk_cell HA.out 4).trans rfl
    go_wp2_with fail
    go_roundg k1
    case measure => omega
    case rel => exact ⟨5, _, _, rfl, rfl, ⟨by rw [HN.out]; exact HF4.out.symm⟩, ⟨rfl⟩, ⟨by have := HI.out; omega⟩, HA, HB⟩
   ·obtain rfl : x = 5 := HX.out
    have kk : wr.cell? ⟨g, 5, none⟩ = some (.slice A14 l14.length c14) := (blk_cell HA.out 5).trans rfl
    go_wp2_with fail
    go_roundg k1
    case measure => omega
    case rel => exact ⟨6, _, _, rfl, rfl, ⟨by rw [HN.out]; exact HF5.out.symm⟩, ⟨rfl⟩, ⟨by have := HI.out; omega⟩, HA, HB⟩
   ·obtain rfl : x = 6 := HX.out
    have kk : wr.cell? ⟨g, 6, none⟩ = some (.slice A15 l15.length c15) := (blk_cell HA.out 6).trans rfl
    go_wp2_with fail
    go_roundg k1
    case measure => omega
    case rel => exact ⟨7, _, _, rfl, rfl, ⟨by rw [HN.out]; exact HF6.out.symm⟩, ⟨rfl⟩, ⟨by have := HI.out; omega⟩, HA, HB⟩
   ·obtain rfl : x = 7 := HX.out
    have kk : wr.cell? ⟨g, 7, none⟩ = some (.slice A16 l16.length c16) := (blk_cell HA.out 7).trans rfl
    go_wp2_with fail
    go_roundg k1
    case measure => omega
    case rel => exact ⟨8, _, _, rfl, rfl, ⟨by rw [HN.out]; exact HF7.out.symm⟩, ⟨rfl⟩, ⟨by have := HI.out; omega⟩, HA, HB⟩
end Go.Proofs.YtddoidcbpcmlaaaDoor.RefL
/- trystlaw13.Few told. (Written by gen_reffew.py.) -/
namespace Go.Proofs.YtddoidcbpcmlaaaDoor.RefW
open Go.RowKit Go.Proofs.YtddoidcbpcmlaaaDoorW.PrintWords Go.Proofs.YtddoidcbpcmlaaaDoorW.PrintLast Go.Proofs.YtddoidcbpcmlaaaDoorW.PrintMore Go.Proofs.YtddoidcbpcmlaaaDoor.M
set_option linter.unusedVariables false
set_option linter.unusedSimpArgs false
/-- The numbers of the first so many lists, and the days. -/
def fs (d : Nat) (g : Nat → Nat) : Nat → Int
 | 0 => (d : Int)
 | q + 1 => wrap64 (fs d g q + (g q : Int))
theorem fs_step (d : Nat) (g : Nat → Nat) (q n : Nat) (h : g q = n) : fs d g (q + 1) = wrap64 (fs d g q + (n : Int)) := by rw [fs, h]
def ln (l8 l9 l10 l12 l13 l14 l15 l16 : Nat) : Nat → Nat
 | 0 => l8
 | 1 => l9
 | 2 => l10
 | 3 => l12
 | 4 => l13
 | 5 => l14
 | 6 => l15
 | _ => l16
def few (d l8 l9 l10 l12 l13 l14 l15 l16 : Nat) : Bool := decide (fs d (ln l8 l9 l10 l12 l13 l14 l15 l16) 8 ≤ 500)
theorem few_ (a0 : Int) (a1 : Int) (a2 : Int) (a3 : Int) (a4 : Int) (a5 : ByteArray) (a6 : Bool) (a7 : Int) (A8 : Option Addr) (c8 : Nat) (l8 : List Int) (A9 : Option Addr) (c9 : Nat) (l9 : List Int) (A10 : Option Addr) (c10 : Nat) (l10 : List Int) (A11 : Option Addr) (c11 : Nat) (l11 : List S101) (A12 : Option Addr) (c12 : Nat) (l12 : List Int) (A13 : Option Addr) (c13 : Nat) (l13 : List Int) (A14 : Option Addr) (c14 : Nat) (l14 : List Int) (A15 : Option Addr) (c15 : Nat) (l15 : List Int) (A16 : Option Addr) (c16 : Nat) (l16 : List Int) (w : World) :
  Calls Tryd.prog 33 #[.agg #[.int .i64 a0, .int .i64 a1, .int .i64 a2, .int .i64 a3, .int .i64 a4, .string a5, .bool a6, .int .i64 a7, .slice A8 l8.length c8, .slice A9 l9.length c9, .slice A10 l10.length c10, .slice A11 l11.length c11, .slice A12 l12.length c12, .slice A13 l13.length c13, .slice A14 l14.length c14, .slice A15 l15.length c15, .slice A16 l16.length c16]] w fun e w' => e = .returned (.bool (few l11.length l8.length l9.length l10.length l12.length l13.length l14.length l15.length l16.length)) ∧ Below w.heap.size w w' :=
 RefL.few0 a0 a1 a2 a3 a4 a5 a6 a7 A8 c8 l8 A9 c9 l9 A10 c10 l10 A11 c11 l11 A12 c12 l12 A13 c13 l13 A14 c14 l14 A15 c15 l15 A16 c16 l16 (fs l11.length (ln l8.length l9.length l10.length l12.length l13.length l14.length l15.length l16.length)) (by rw [fs]) (fs_step _ _ 0 _ rfl) (fs_step _ _ 1 _ rfl) (fs_step _ _ 2 _ rfl) (fs_step _ _ 3 _ rfl) (fs_step _ _ 4 _ rfl) (fs_step _ _ 5 _ rfl) (fs_step _ _ 6 _ rfl) (fs_step _ _ 7 _ rfl) w
end Go.Proofs.YtddoidcbpcmlaaaDoor.RefW
namespace Go.Proofs.YtddoidcbpcmlaaaDoor.M
open Go.RowKit Go.Proofs.YtddoidcbpcmlaaaDoorW.PrintWords Go.Proofs.YtddoidcbpcmlaaaDoorW.PrintLast Go.Proofs.YtddoidcbpcmlaaaDoorW.PrintMore
attribute [local go_sem] max2_int min2_int max_two min_two
set_option linter.unusedVariables false
set_option linter.unusedSimpArgs false
/-! ### trystlaw13_PerDay: function 34 -/
def trystlaw13_PerDay.f (a0_0 : Int) (a0_1 : Int) (a0_2 : Int) (a0_3 : Int) (a0_4 : Int) (a0_5 : ByteArray) (a0_6 : Bool) (a0_7 : Int) (l0_8 : List Int) (l0_9 : List Int) (l0_10 : List Int) (l0_11 : List (S101)) (l0_12 : List Int) (l0_13 : List Int) (l0_14 : List Int) (l0_15 : List Int) (l0_16 : List Int) : Option (Int) := some (wrap64 ((wrap64 ((mx 1 (l0_10.length : Int)) * (mx 1 (l0_9.length : Int)))) * (mx 1 (l0_8.length : Int))))
set_option maxHeartbeats 8000000 in
set_option maxRecDepth 100000 in
theorem trystlaw13_PerDay.calls (a0_0 : Int) (a0_1 : Int) (a0_2 : Int) (a0_3 : Int) (a0_4 : Int) (a0_5 : ByteArray) (a0_6 : Bool) (a0_7 : Int) (A0_8 : Option Addr) (c0_8 : Nat) (l0_8 : List Int) (A0_9 : Option Addr) (c0_9 : Nat) (l0_9 : List Int) (A0_10 : Option Addr) (c0_10 : Nat) (l0_10 : List Int) (A0_11 : Option Addr) (c0_11 : Nat) (l0_11 : List (S101)) (A0_12 : Option Addr) (c0_12 : Nat) (l0_12 : List Int) (A0_13 : Option Addr) (c0_13 : Nat) (l0_13 : List Int) (A0_14 : Option Addr) (c0_14 : Nat) (l0_14 : List Int) (A0_15 : Option Addr) (c0_15 : Nat) (l0_15 : List Int) (A0_16 : Option Addr) (c0_16 : Nat) (l0_16 : List Int) (r : Int) (w : World) (hr0_8 : Kd.C (Kd.int .i64) w A0_8 l0_8.length l0_8) (hc0_8 : l0_8.length ≤ c0_8) (hr0_9 : Kd.C (Kd.int .i64) w A0_9 l0_9.length l0_9) (hc0_9 : l0_9.length ≤ c0_9) (hr0_10 : Kd.C (Kd.int .i64) w A0_10 l0_10.length l0_10) (hc0_10 : l0_10.length ≤ c0_10) (hr0_11 : Kd.C k101 w A0_11 l0_11.length l0_11) (hc0_11 : l0_11.length ≤ c0_11) (hr0_12 : Kd.C (Kd.int .i64) w A0_12 l0_12.length l0_12) (hc0_12 : l0_12.length ≤ c0_12) (hr0_13 : Kd.C (Kd.int .i64) w A0_13 l0_13.length l0_13) (hc0_13 : l0_13.length ≤ c0_13) (hr0_14 : Kd.C (Kd.int .i64) w A0_14 l0_14.length l0_14) (hc0_14 : l0_14.length ≤ c0_14) (hr0_15 : Kd.C (Kd.int .i64) w A0_15 l0_15.length l0_15) (hc0_15 : l0_15.length ≤ c0_15) (hr0_16 : Kd.C (Kd.int .i64) w A0_16 l0_16.length l0_16) (hc0_16 : l0_16.length ≤ c0_16) (h : trystlaw13_PerDay.f a0_0 a0_1 a0_2 a0_3 a0_4 a0_5 a0_6 a0_7 l0_8 l0_9 l0_10 l0_11 l0_12 l0_13 l0_14 l0_15 l0_16 = some r) :
  Calls Tryd.prog 34 #[.agg #[.int .i64 a0_0, .int .i64 a0_1, .int .i64 a0_2, .int .i64 a0_3, .int .i64 a0_4, .string a0_5, .bool a0_6, .int .i64 a0_7, .slice A0_8 l0_8.length c0_8, .slice A0_9 l0_9.length c0_9, .slice A0_10 l0_10.length c0_10, .slice A0_11 l0_11.length c0_11, .slice A0_12 l0_12.length c0_12, .slice A0_13 l0_13.length c0_13, .slice A0_14 l0_14.length c0_14, .slice A0_15 l0_15.length c0_15, .slice A0_16 l0_16.length c0_16]] w fun e w' => e = .returned (.int .i64 r) ∧ Below w.heap.size w w' := by
 have hu27 := Tryd.underlying27
 have HR0_8 := Aside0.mk hr0_8
 have HC0_8 := Aside0.mk hc0_8
 clear hr0_8 hc0_8
 have HR0_9 := Aside0.mk hr0_9
 have HC0_9 := Aside0.mk hc0_9
 clear hr0_9 hc0_9
 have HR0_10 := Aside0.mk hr0_10
 have HC0_10 := Aside0.mk hc0_10
 clear hr0_10 hc0_10
 have HR0_11 := Aside0.mk hr0_11
 have HC0_11 := Aside0.mk hc0_11
 clear hr0_11 hc0_11
 have HR0_12 := Aside0.mk hr0_12
 have HC0_12 := Aside0.mk hc0_12
 clear hr0_12 hc0_12
 have HR0_13 := Aside0.mk hr0_13
 have HC0_13 := Aside0.mk hc0_13
 clear hr0_13 hc0_13
 have HR0_14 := Aside0.mk hr0_14
 have HC0_14 := Aside0.mk hc0_14
 clear hr0_14 hc0_14
 have HR0_15 := Aside0.mk hr0_15
 have HC0_15 := Aside0.mk hc0_15
 clear hr0_15 hc0_15
 have HR0_16 := Aside0.mk hr0_16
 have HC0_16 := Aside0.mk hc0_16
 clear hr0_16 hc0_16
 have HB := Aside0.mk (Below.refl w.heap.size w)
 have H : (some (wrap64 ((wrap64 ((mx 1 (l0_10.length : Int)) * (mx 1 (l0_9.length : Int)))) * (mx 1 (l0_8.length : Int))))) = some r := h
 clear h
 obtain ⟨ji2, hji2⟩ : ∃ j_ : Int, (mx 1 (l0_10.length : Int)) = j_ := ⟨_, rfl⟩
 replace H : (some (wrap64 ((wrap64 ((ji2) * (mx 1 (l0_9.length : Int)))) * (mx 1 (l0_8.length : Int))))) = some r := by first | (rw [hji2] at H; exact H) | (simp only [hji2] at H ⊢; exact H)
 (try (have hji2l : 1 ≤ ji2 := by (rw [← hji2]; unfold mx; (repeat' split) <;> omega)))
 (try (have hji2m : 0 ≤ ji2 := by omega))
 have hji2_ : (if 1 < (l0_10.length : Int) then (l0_10.length : Int) else 1) = ji2 := hji2
 obtain ⟨ji3, hji3⟩ : ∃ j_ : Int, (mx 1 (l0_9.length : Int)) = j_ := ⟨_, rfl⟩
 replace H : (some (wrap64 ((wrap64 ((ji2) * (ji3))) * (mx 1 (l0_8.length : Int))))) = some r := by first | (rw [hji3] at H; exact H) | (simp only [hji3] at H ⊢; exact H)
 (try (have hji3l : 1 ≤ ji3 := by (rw [← hji3]; unfold mx; (repeat' split) <;> omega)))
 (try (have hji3m : 0 ≤ ji3 := by omega))
 have hji3_ : (if 1 < (l0_9.length : Int) then (l0_9.length : Int) else 1) = ji3 := hji3
 obtain ⟨ji4, hji4⟩ : ∃ j_ : Int, (mx 1 (l0_8.length : Int)) = j_ := ⟨_, rfl⟩
 replace H : (some (wrap64 ((wrap64 ((ji2) * (ji3))) * (ji4)))) = some r := by first | (rw [hji4] at H; exact H) | (simp only [hji4] at H ⊢; exact H)
 (try (have hji4l : 1 ≤ ji4 := by (rw [← hji4]; unfold mx; (repeat' split) <;> omega)))
 (try (have hji4m : 0 ≤ ji4 := by omega))
 have hji4_ : (if 1 < (l0_8.length : Int) then (l0_8.length : Int) else 1) = ji4 := hji4
 obtain rfl := Option.some.inj H
 go_enter Tryd.func34, Tryd.ntmps34
 go_wp2_with (first | ((with_reducible refine gate_dst (N := 1) rfl ?_); refine box_event ?hg (N := 1) ?hd (cs := #[.int .i64 a0_0, .int .i64 a0_1, .int .i64 a0_2, .int .i64 a0_3, .int .i64 a0_4, .string a0_5, .bool a0_6, .int .i64 a0_7, .slice A0_8 l0_8.length c0_8, .slice A0_9 l0_9.length c0_9, .slice A0_10 l0_10.length c0_10, .slice A0_11 l0_11.length c0_11, .slice A0_12 l0_12.length c0_12, .slice A0_13 l0_13.length c0_13, .slice A0_14 l0_14.length c0_14, .slice A0_15 l0_15.length c0_15, .slice A0_16 l0_16.length c0_16]) (t := 27) ?hr ?_; (case hd => rfl); (case hg => rfl); (case hr => first | (go_simp; done) | (go_simp; rfl)); intro gb113 hg w5 hbox hb; have n0_ := Aside0.mk (below_step (by repeat (first | (with_reducible first | exact HB.out | apply below_alloc | apply pw_below_drewN | apply below_drew1) | exact HB.out)) hb); have n1_ := Aside0.mk (hbox); have n2_ := Aside0.mk ((by rw [hg]; exact (below_size (by repeat (first | (with_reducible first | exact HB.out | apply below_alloc | apply pw_below_drewN | apply below_drew1) | exact HB.out))) : w.heap.size ≤ gb113)); have n3_ := Aside0.mk ((by rw [hg]; exact (below_size (by repeat (first | (with_reducible first | exact HB.out | apply below_alloc | apply pw_below_drewN | apply below_drew1) | exact HB.out))) : w.heap.size ≤ gb113)); clear HB; have HB := n0_; have BK113 := n1_; have GW113 := n2_; have GE113 := n3_; clear n0_ n1_ n2_ n3_; clear hb hbox hg; have hcz6_0 : w5.cell? ⟨gb113, 0, none⟩ = some (.int .i64 a0_0) := (blk_cell BK113.out 0).trans rfl; have hcz6_1 : w5.cell? ⟨gb113, 1, none⟩ = some (.int .i64 a0_1) := (blk_cell BK113.out 1).trans rfl; have hcz6_2 : w5.cell? ⟨gb113, 2, none⟩ = some (.int .i64 a0_2) := (blk_cell BK113.out 2).trans rfl; have hcz6_3 : w5.cell? ⟨gb113, 3, none⟩ = some (.int .i64 a0_3) := (blk_cell BK113.out 3).trans rfl; have hcz6_4 : w5.cell? ⟨gb113, 4, none⟩ = some (.int .i64 a0_4) := (blk_cell BK113.out 4).trans rfl; have hcz6_5 : w5.cell? ⟨gb113, 5, none⟩ = some (.string a0_5) := (blk_cell BK113.out 5).trans rfl; have hcz6_6 : w5.cell? ⟨gb113, 6, none⟩ = some (.bool a0_6) := (blk_cell BK113.out 6).trans rfl; have hcz6_7 : w5.cell? ⟨gb113, 7, none⟩ = some (.int .i64 a0_7) := (blk_cell BK113.out 7).trans rfl; have hcz6_8 : w5.cell? ⟨gb113, 8, none⟩ = some (.slice A0_8 l0_8.length c0_8) := (blk_cell BK113.out 8).trans rfl; have hcz6_9 : w5.cell? ⟨gb113, 9, none⟩ = some (.slice A0_9 l0_9.length c0_9) := (blk_cell BK113.out 9).trans rfl; have hcz6_10 : w5.cell? ⟨gb113, 10, none⟩ = some (.slice A0_10 l0_10.length c0_10) := (blk_cell BK113.out 10).trans rfl; have hcz6_11 : w5.cell? ⟨gb113, 11, none⟩ = some (.slice A0_11 l0_11.length c0_11) := (blk_cell BK113.out 11).trans rfl; have hcz6_12 : w5.cell? ⟨gb113, 12, none⟩ = some (.slice A0_12 l0_12.length c0_12) := (blk_cell BK113.out 12).trans rfl; have hcz6_13 : w5.cell? ⟨gb113, 13, none⟩ = some (.slice A0_13 l0_13.length c0_13) := (blk_cell BK113.out 13).trans rfl; have hcz6_14 : w5.cell? ⟨gb113, 14, none⟩ = some (.slice A0_14 l0_14.length c0_14) := (blk_cell BK113.out 14).trans rfl; have hcz6_15 : w5.cell? ⟨gb113, 15, none⟩ = some (.slice A0_15 l0_15.length c0_15) := (blk_cell BK113.out 15).trans rfl; have hcz6_16 : w5.cell? ⟨gb113, 16, none⟩ = some (.slice A0_16 l0_16.length c0_16) := (blk_cell BK113.out 16).trans rfl; have hfz6_0 := blk_frozen BK113.out 0; have hfz6_1 := blk_frozen BK113.out 1; have hfz6_2 := blk_frozen BK113.out 2; have hfz6_3 := blk_frozen BK113.out 3; have hfz6_4 := blk_frozen BK113.out 4; have hfz6_5 := blk_frozen BK113.out 5; have hfz6_6 := blk_frozen BK113.out 6; have hfz6_7 := blk_frozen BK113.out 7; have hfz6_8 := blk_frozen BK113.out 8; have hfz6_9 := blk_frozen BK113.out 9; have hfz6_10 := blk_frozen BK113.out 10; have hfz6_11 := blk_frozen BK113.out 11; have hfz6_12 := blk_frozen BK113.out 12; have hfz6_13 := blk_frozen BK113.out 13; have hfz6_14 := blk_frozen BK113.out 14; have hfz6_15 := blk_frozen BK113.out 15; have hfz6_16 := blk_frozen BK113.out 16))
 go_ret
 exact ⟨by first | rfl | (simp [i64_w]; done) | (simp [errW_none, errW_some] <;> rfl) | (simp only [← hji2, ← hji3, ← hji4]; first | rfl | (simp [errW_none, errW_some] <;> rfl)) | (simp [*, errW_none, errW_some] <;> rfl), by repeat (first | (with_reducible first | exact HB.out | apply below_alloc | apply pw_below_drewN | apply below_drew1 | refine below_set ?_ GE113.out) | exact HB.out)⟩

end Go.Proofs.YtddoidcbpcmlaaaDoor.M
