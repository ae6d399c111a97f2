/- Texts of this claim, merged: EvC, RefL, RefW. -/
import Derived.Test.YtddoidcbpcmlaaaMgEventClones3
import Derived.Test.YtddoidcbpcmlaaaMgEventClones2
import Derived.Test.YtddoidcbpcmlaaaWMore
/- event.Clone. (Written by gen_evc.py.) -/
namespace Go.Proofs.Ytddoidcbpcmlaaa.EvC
open Go.RowKit Go.Proofs.YtddoidcbpcmlaaaW.PrintWords Go.Proofs.YtddoidcbpcmlaaaW.PrintLast Go.Proofs.Ytddoidcbpcmlaaa.M Go.Proofs.Ytddoidcbpcmlaaa.Fr Go.Proofs.Ytddoidcbpcmlaaa.Clo Go.Proofs.Ytddoidcbpcmlaaa.Ru
open Go.Proofs.Ytddoidcbpcmlaaa.LinC (At C_at twoB agree_set fr_set)
open Go.Proofs.Ytddoidcbpcmlaaa.RecC (OkF fr_open results_cell unhold)
open Go.Proofs.Ytddoidcbpcmlaaa.SetC (setL blk_setCells setCells_other setCells_size setCells_below agree_setCells range_of there_of Sv Sp sagg OkS OkSF keepS agree_below)
set_option linter.unusedVariables false
set_option linter.unusedSimpArgs false
/-- An event's values. -/
structure Ev where
  uid : ByteArray
  seq : Int
  stamp : Int
  set : Sv
  len : Int
  sum : ByteArray
  com : ByteArray
  sta : Int
  org : ByteArray
  ps : List S40
  is : Bool
  part : S25
  fut : Bool
  ex : List S55
/-- Where an event's lists lie. -/
structure Ep where
  sp : Sp
  Ap : Option Addr
  cp : Nat
  Ax : Option Addr
  cx : Nat
abbrev e3 (v : Ev) : List Value := [.string v.uid, .int .i64 v.seq, .int .i64 v.stamp]
abbrev et (v : Ev) (p : Ep) : List Value := [.int .i64 v.len, .string v.sum, .string v.com, .int .i64 v.sta, .string v.org, Value.slice p.Ap v.ps.length p.cp, .bool v.is, .int .i64 v.part.f0, .int .i64 v.part.f1, .string v.part.f2, .bool v.fut, Value.slice p.Ax v.ex.length p.cx]
abbrev eagg (v : Ev) (p : Ep) : Array Value := (e3 v ++ ((sagg v.set p.sp).toList ++ et v p)).toArray
abbrev PE : Kd (List S40) := Kd.slice 40 k40
abbrev XE : Kd (List S55) := Kd.slice 55 k55
abbrev QE : Kd (List S105) := Kd.slice 105 k105
structure OkE (v : Ev) (p : Ep) (w : World) : Prop where
  s : OkS v.set p.sp w
  hp : Kd.C k40 w p.Ap v.ps.length v.ps
  dp : v.ps.length ≤ p.cp
  hx : Kd.C k55 w p.Ax v.ex.length v.ex
  dx : v.ex.length ≤ p.cx
structure OkEF (v : Ev) (p : Ep) (n : Nat) (w : World) : Prop where
  h : ∀ w', Agree n w w' → OkE v p w'
theorem OkE.below {v : Ev} {p : Ep} {w w' : World} (h : OkE v p w) (hb : Below w.heap.size w w') : OkE v p w' := ⟨h.s.below hb, Kd.C_below h.hp hb, h.dp, Kd.C_below h.hx hb, h.dx⟩
def Small (v : Ev) : Prop := SetC.Small v.set ∧ v.ps.length ≤ 1000000 ∧ v.ex.length ≤ 1000000 ∧ ∀ l ∈ v.ex, l.f1.length ≤ 3518437208883 ∧ ∀ p ∈ l.f1, p.f1.length ≤ 8796093022208
theorem flatP {n : Nat} {w1 w : World} (x : S40) (cs : List Value) (h : k40.K w x cs) : Fr k40 n w1 x cs := by
  obtain rfl := k40_open h
  exact fun W _ => k40_mk W x
theorem szE : (Try.prog.info? 36).map (·.size) = some 38 := by kernel_rfl
abbrev ze : Array Value := #[.string ⟨#[]⟩, .int .i64 0, .int .i64 0, .int .i64 0, .int .i64 0, .string ⟨#[]⟩, .bool false, .int .i64 0, .int .i64 0, .int .i64 0, .int .i64 0, .int .i64 0, .string ⟨#[]⟩, .bool false, .int .i64 0, .slice none 0 0, .slice none 0 0, .slice none 0 0, .slice none 0 0, .slice none 0 0, .slice none 0 0, .slice none 0 0, .slice none 0 0, .slice none 0 0, .slice none 0 0, .slice none 0 0, .int .i64 0, .string ⟨#[]⟩, .string ⟨#[]⟩, .int .i64 0, .string ⟨#[]⟩, .slice none 0 0, .bool false, .int .i64 0, .int .i64 0, .string ⟨#[]⟩, .bool false, .slice none 0 0]
theorem ldE {v : Ev} {p : Ep} {w : World} {g : Nat} (h : w.heap[g]? = some (.cells (eagg v p) 36 (0, 0))) : (loadVar 36 ⟨g, 0, none⟩).run Try.prog w = .ok (.agg (eagg v p)) w :=
  run_loadVar_row w g 36 36 (eagg v p) (0, 0) _ h Try.underlying36 rfl szE
theorem xR {ρ : Operand → Value} {o : Oper} (q : Operand) (g : Nat) (v : Ev) (p : Ep) (hop : o.op = .load 36 q) (hp : ρ q = .pointer (some ⟨g, 0, none⟩)) (w : World) (hg : w.heap[g]? = some (.cells (eagg v p) 36 (0, 0))) : (execOp ρ o).run Try.prog w = .ok (.value (.agg (eagg v p))) w := by
  unfold execOp
  rw [hop]
  show (do pure (Next.value (← Instr.loadAt 36 (ρ q))) : Sem Next).run Try.prog w = _
  rw [hp]
  simp only [Instr.loadAt, Instr.sureAddr, Sem.run_bind, Sem.run_pure, Result.andThen_ok, ldE hg]
theorem oneE (v : Ev) (p : Ep) : (eagg v p).all (·.oneCell') = true := by simp [agg, Value.oneCell']
theorem stmid {P : Program} {ops : Array Oper} {rest : List Oper} {op : Oper} {a : Act} {w w' : World} {Q : Exit → Act → World → Prop} (hgd : op.guard = none) (ty : TypeId) (x y : Operand) (ho : op.op = .store ty x y)
    (b o : Nat) (cells : Array Value) (hx : a.eval x = .pointer (some ⟨b, o, none⟩)) (hy : a.eval y = .agg cells)
    (ht : w.there b o cells.size) (hi : (P.info? ty).map (·.size) = some cells.size) (h1 : cells.all (·.oneCell') = true) (hw : w' = w.setCells b o cells.toList)
    (h : wpList P ops Q rest (a.put op.dst undef) w') : wpList P ops Q (op :: rest) a w := by
  subst hw
  exact wpList_store_mid hgd ty x y ho b o cells hx hy ht hi h1 h
theorem at31 (v : Ev) (p : Ep) : (eagg v p)[31]? = some (.slice p.Ap v.ps.length p.cp) := rfl
theorem at37 (v : Ev) (p : Ep) : (eagg v p)[37]? = some (.slice p.Ax v.ex.length p.cx) := rfl
theorem setL_set (v : Ev) (p : Ep) (p1 : Sp) : setL (eagg v p) 3 (sagg v.set p1).toList = eagg v { p with sp := p1 } := by
  simp only [setL, List.cons_append, List.nil_append, List.setIfInBounds_toArray, List.set_cons_zero, List.set_cons_succ]
  rfl
theorem setP (v : Ev) (p : Ep) (A : Option Addr) (c : Nat) : (eagg v p).setIfInBounds 31 (.slice A v.ps.length c) = eagg v { p with Ap := A, cp := c } := by
  simp only [List.cons_append, List.nil_append, List.setIfInBounds_toArray, List.set_cons_zero, List.set_cons_succ]
  rfl
theorem setX (v : Ev) (p : Ep) (A : Option Addr) (c : Nat) : (eagg v p).setIfInBounds 37 (.slice A v.ex.length c) = eagg v { p with Ax := A, cx := c } := by
  simp only [List.cons_append, List.nil_append, List.setIfInBounds_toArray, List.set_cons_zero, List.set_cons_succ]
  rfl
/-- The lines' row between two rounds: those before i have parameters of their own. -/
def Mid (w0 : World) (gr : Nat) (ls : List S55) (i : Nat) (w : World) : Prop := ∃ cells : Array Value, w.heap[gr]? = some (.cells cells 55 (0, 0)) ∧
  ∀ j l, ls[j]? = some l → ∃ v, cells[j * 3]? = some (.string l.f0) ∧ cells[j * 3 + 1]? = some v ∧ cells[j * 3 + 2]? = some (.string l.f2) ∧ (j < i → Fr QE (gr + 1) w l.f1 [v]) ∧ (i ≤ j → QE.K w0 l.f1 [v])
theorem Mid.start {w0 wz w : World} {gr n0 : Nat} {ls : List S55} {A : Option Addr} (h : Row (At k55 w0) 55 wz n0 w A ls) (hp : 0 < ls.length) (hA : A = some ⟨gr, 0, none⟩) : n0 ≤ gr ∧ gr < w.heap.size ∧ Mid w0 gr ls 0 w := by
  obtain ⟨g, cells, e, h1, h2, h3, h4⟩ := h hp
  rw [hA] at e
  cases e
  refine ⟨h1, h2, cells, h3, fun j p hj => ?_⟩
  obtain ⟨cs, e1, e2, e3⟩ := h4 j p hj
  obtain ⟨A1, c1, rfl, l1, g1⟩ := k55_open e2
  exact ⟨_, e3 0 _ rfl, e3 1 _ rfl, e3 2 _ rfl, fun q => by omega, fun _ => ⟨A1, c1, rfl, l1, g1⟩⟩
theorem Mid.below {w0 w w1 : World} {gr : Nat} {ls : List S55} {i : Nat} (h : Mid w0 gr ls i w) (hb : Below w.heap.size w w1) : Mid w0 gr ls i w1 := by
  obtain ⟨cells, h1, h2⟩ := h
  refine ⟨cells, blk_below h1 hb, fun j p hj => ?_⟩
  obtain ⟨v, e1, e2, e3, e4, e5⟩ := h2 j p hj
  exact ⟨v, e1, e2, e3, fun q => (e4 q).below hb, e5⟩
theorem Mid.far {w0 w : World} {gr : Nat} {ls : List S55} {i : Nat} (h : Mid w0 gr ls i w) (a : Addr) (u : Value) (ha : a.block < gr) : Mid w0 gr ls i (w.setCell a u) := by
  obtain ⟨cells, h1, h2⟩ := h
  refine ⟨cells, blk_far h1 (by omega) u, fun j p hj => ?_⟩
  obtain ⟨v, e1, e2, e3, e4, e5⟩ := h2 j p hj
  exact ⟨v, e1, e2, e3, fun q => fr_set (e4 q) a u (by omega), e5⟩
theorem Mid.step {w0 w : World} {gr : Nat} {ls : List S55} {i : Nat} {p : S55} {v : Value} (h : Mid w0 gr ls i w) (hp : ls[i]? = some p) (hv : Fr QE (gr + 1) w p.f1 [v]) :
    Mid w0 gr ls (i + 1) (((w.setCell ⟨gr, i * 3, none⟩ (.string p.f0)).setCell ⟨gr, i * 3 + 1, none⟩ v).setCell ⟨gr, i * 3 + 2, none⟩ (.string p.f2)) := by
  obtain ⟨cells, h1, h2⟩ := h
  have three : ∀ {x : List S105} {u : Value}, Fr QE (gr + 1) w x [u] → Fr QE (gr + 1) (((w.setCell ⟨gr, i * 3, none⟩ (.string p.f0)).setCell ⟨gr, i * 3 + 1, none⟩ v).setCell ⟨gr, i * 3 + 2, none⟩ (.string p.f2)) x [u] :=
    fun h => fr_set (fr_set (fr_set h _ _ (by show gr < gr + 1; omega)) _ _ (by show gr < gr + 1; omega)) _ _ (by show gr < gr + 1; omega)
  refine ⟨_, blk_set (blk_set (blk_set h1 (i * 3) (.string p.f0)) (i * 3 + 1) v) (i * 3 + 2) (.string p.f2), fun j q hj => ?_⟩
  obtain ⟨u, e1, e2, e3, e4, e5⟩ := h2 j q hj
  have hlt : i * 3 + 2 < cells.size := by obtain ⟨_, _, _, e, _⟩ := h2 i p hp; exact (Array.getElem?_eq_some_iff.1 e).1
  by_cases c : j = i
  · subst c
    rw [hp] at hj
    cases hj
    refine ⟨v, ?_, ?_, ?_, fun _ => three hv, fun q => by omega⟩
    · rw [Array.getElem?_setIfInBounds_ne (by omega), Array.getElem?_setIfInBounds_ne (by omega), Array.getElem?_setIfInBounds_self_of_lt (by omega)]
    · rw [Array.getElem?_setIfInBounds_ne (by omega), Array.getElem?_setIfInBounds_self_of_lt (by simp; omega)]
    · rw [Array.getElem?_setIfInBounds_self_of_lt (by simp; omega)]
  · refine ⟨u, ?_, ?_, ?_, fun q => three (e4 (by omega)), fun q => e5 (by omega)⟩
    · rw [Array.getElem?_setIfInBounds_ne (by omega), Array.getElem?_setIfInBounds_ne (by omega), Array.getElem?_setIfInBounds_ne (by omega)]; exact e1
    · rw [Array.getElem?_setIfInBounds_ne (by omega), Array.getElem?_setIfInBounds_ne (by omega), Array.getElem?_setIfInBounds_ne (by omega)]; exact e2
    · rw [Array.getElem?_setIfInBounds_ne (by omega), Array.getElem?_setIfInBounds_ne (by omega), Array.getElem?_setIfInBounds_ne (by omega)]; exact e3
theorem Mid.fr {w0 w : World} {gr c : Nat} {ls : List S55} (h : Mid w0 gr ls ls.length w) (hg : gr < w.heap.size) (hc : ls.length ≤ c) (hm : ls.length ≤ 1000000) : Fr XE gr w ls [.slice (some ⟨gr, 0, none⟩) ls.length c] :=
  Fr.slice hc (by omega) fun hp => by
    obtain ⟨cells, h1, h2⟩ := h
    refine ⟨_, rfl, Nat.le_refl _, hg, fun j p hj => ?_⟩
    obtain ⟨v, e1, e2, e3, e4, _⟩ := h2 j p hj
    have hlt := (List.getElem?_eq_some_iff.1 hj).1
    refine ⟨[.string p.f0, v, .string p.f2], rfl, Fr.iso (f := fun x : S55 => (x.f0, x.f1, x.f2)) (Fr.pair (c0 := [.string p.f0]) (c1 := [v, .string p.f2]) Fr.scalar (Fr.pair (c0 := [v]) (c1 := [.string p.f2]) ((e4 hlt).lower (by omega)) Fr.scalar)), fun q u hq => Row.cell (w0 := w0) (n0 := gr) (xs := ls) (d := k55) h1 ?_⟩
    match q, hq with
    | 0, hq => obtain rfl := Option.some.inj hq; exact e1
    | 1, hq => obtain rfl := Option.some.inj hq; exact e2
    | 2, hq => obtain rfl := Option.some.inj hq; exact e3
theorem lineF {n m : Nat} {w : World} {x : S55} {A : Option Addr} {c : Nat} (h : Fr k55 n w x [.string x.f0, .slice A x.f1.length c, .string x.f2]) (hm : m ≤ n) : Fr QE m w x.f1 [.slice A x.f1.length c] := fun W hW => by
  obtain ⟨A1, c1, e, l1, g1⟩ := k55_open (h W fun k h1 h2 => hW k (by omega) h2)
  have e2 := (List.cons.inj (List.cons.inj e).2).1
  injection e2 with e3 e4 e5
  subst e3
  subst e5
  exact ⟨A, c, rfl, l1, g1⟩
theorem mkF {v : Ev} {p1 : Sp} {A3 A5 : Option Addr} {c3 c5 n : Nat} {w : World} (h1 : OkSF v.set p1 n w) (h3 : Fr PE n w v.ps [.slice A3 v.ps.length c3]) (h5 : Fr XE n w v.ex [.slice A5 v.ex.length c5]) : OkEF v ⟨p1, A3, c3, A5, c5⟩ n w := by
  obtain ⟨A, c, e3, l3, g3⟩ := fr_open h3
  obtain ⟨A', c', e5, l5, g5⟩ := fr_open h5
  cases e3
  cases e5
  exact ⟨fun w' hw => ⟨h1.h w' hw, g3 w' hw, l3, g5 w' hw, l5⟩⟩
theorem agree_trans {n : Nat} {a b c : World} (h1 : Agree n a b) (h2 : Agree n b c) (hs : a.heap.size ≤ b.heap.size) : Agree n a c := fun k q1 q2 => (h2 k q1 (by omega)).trans (h1 k q1 q2)
theorem agree_far {n : Nat} {a b : World} (h1 : Agree n a b) (p : Addr) (u : Value) (hp : a.heap.size ≤ p.block) : Agree n a (b.setCell p u) := fun k q1 q2 => (Below.heap_setCell b p u k (by omega)).trans (h1 k q1 q2)
def Tc7 : Bool × List (List Nat × List Nat) := (true, [([], []), ([0], [0]), ([], []), ([], []), ([3], [3]), ([], []), ([4, 5], [4, 5]), ([6], [6]), ([7], [7]), ([1, 2, 0, 1, 2, 3, 4, 5, 6, 7, 8], [1, 2]), ([9, 8, 8, 0, 1, 2, 3, 4, 5, 6, 7, 8], [8, 9])])
def Bc7 : List Nat := [0, 1, 0, 0, 8, 0, 56, 120, 248, 511, 1023]
theorem tabc7 : rtab .any (opsOf Try.f18 7) = Tc7 := by kernel_rfl
theorem bitsc7 : waitsOk Tc7.2 Bc7 = true := by kernel_rfl
set_option maxHeartbeats 4000000 in
set_option maxRecDepth 100000 in
theorem clone (v : Ev) (p : Ep) (w : World) (ok : OkE v p w) (hs : Small v) :
    Calls Try.prog 18 #[.agg (eagg v p)] w fun q w' => ∃ p', q = .returned (.agg (eagg v p')) ∧ OkEF v p' w.heap.size w' ∧ Below w.heap.size w w' := by
  have OK := Aside0.mk ok; have HS := Aside0.mk hs
  clear ok hs
  go_enter Try.func18, Try.ntmps18
  go_upto_region 1 with fail
  obtain ⟨w0, hw0, z0, q1, q2, qb⟩ := twoB w (.cells (eagg v p) 36 (0, 0)) (.cells ze 36 (0, 0))
  rw [← hw0]
  clear hw0
  have S0 := Aside0.mk z0; have K0 := Aside0.mk q1; have ZZ := Aside0.mk q2; have HB := Aside0.mk qb
  clear z0 q1 q2 qb
  go_wp2_with ((with_reducible refine gate_ (.load 32 (.tmp 4)) rfl ?_); (try (refine gate_guard (by rfl) ?_; dsimp only)); refine wpList_load_mid rfl 32 (.tmp 4) rfl w.heap.size 3 rfl (sagg v.set p.sp).toList _ (range_of K0.out 3 _ _ rfl) Try.underlying32 rfl SetC.szS ?_)
  refine (SetC.clone v.set p.sp w0 (OK.out.s.below HB.out) HS.out.1).mono ?_
  rintro q w1 ⟨p1, rfl, hF, hb⟩
  have PF := Aside0.mk (show OkSF v.set p1 (w.heap.size + 2) w1 from S0.out ▸ hF)
  replace K0 := Aside0.mk (blk_below K0.out hb); replace ZZ := Aside0.mk (blk_below ZZ.out hb); replace HB := Aside0.mk (below_then HB.out HB.out.size hb)
  have S1 := Aside0.mk (show w.heap.size + 2 ≤ w1.heap.size by have := S0.out; have := hb.size; omega)
  clear hF hb S0
  obtain ⟨w2, HW⟩ : ∃ w2, Aside0 (w2 = w1.setCells w.heap.size 3 (sagg v.set p1).toList) := ⟨_, ⟨rfl⟩⟩
  go_wp2_with ((with_reducible refine gate_ (.store 32 (.tmp 7) (.tmp 6)) rfl ?_); (try (refine gate_guard (by rfl) ?_; dsimp only)); refine stmid rfl 32 (.tmp 7) (.tmp 6) rfl w.heap.size 3 (sagg v.set p1) rfl rfl (there_of K0.out 3 23 (by show 26 ≤ 38; omega)) SetC.szS (SetC.oneS _ _) HW.out ?_; refine unhold ?_)
  refine ⟨?_⟩
  replace K0 := Aside0.mk (show w2.heap[w.heap.size]? = some (.cells (eagg v { p with sp := p1 }) 36 (0, 0)) from by rw [HW.out, ← setL_set v p p1]; exact blk_setCells _ 3 K0.out)
  replace ZZ := Aside0.mk (show w2.heap[w.heap.size + 1]? = some (.cells ze 36 (0, 0)) by rw [HW.out]; exact (setCells_other (show w.heap.size + 1 ≠ w.heap.size by omega) (sagg v.set p1).toList w1 3).trans ZZ.out)
  replace HB := Aside0.mk (show Below w.heap.size w w2 by rw [HW.out]; exact setCells_below (Nat.le_refl _) (sagg v.set p1).toList 3 HB.out)
  replace PF := Aside0.mk (show OkSF v.set p1 (w.heap.size + 2) w2 by rw [HW.out]; exact keepS PF.out (agree_setCells w1 w.heap.size 3 (sagg v.set p1).toList (by omega)) (Nat.le_of_eq (setCells_size _ _ _).symm))
  replace S1 := Aside0.mk (show w.heap.size + 2 ≤ w2.heap.size by rw [HW.out, setCells_size]; exact S1.out)
  clear HW
  have k1 : w2.cell? ⟨w.heap.size, 31, none⟩ = some (.slice p.Ap v.ps.length p.cp) := (blk_cell K0.out 31).trans (at31 _ _)
  go_wp2_with fail
  refine (Clo.person k40 rfl p.Ap p.cp v.ps w2 (Kd.C_below OK.out.hp HB.out) (by have := HS.out.2.1; omega)).mono ?_
  rintro q w3 ⟨A3, c3, rfl, hc3, hrow3, hb⟩
  have F3 := Aside0.mk ((Row.fr (e' := 40) hrow3 flatP hc3 (by have := HS.out.2.1; omega)).lower S1.out)
  replace K0 := Aside0.mk (blk_below K0.out hb); replace ZZ := Aside0.mk (blk_below ZZ.out hb); replace HB := Aside0.mk (below_then HB.out HB.out.size hb)
  replace PF := Aside0.mk (keepS PF.out (agree_below hb) hb.size)
  replace S1 := Aside0.mk (show w.heap.size + 2 ≤ w3.heap.size from Nat.le_trans S1.out hb.size)
  have kf := blk_frozen K0.out 31
  replace k1 := pw_cell_below hb k1
  clear hrow3 hc3 hb
  go_upto_region 3 with fail
  replace K0 := Aside0.mk (show (w3.setCell ⟨w.heap.size, 31, none⟩ (.slice A3 v.ps.length c3)).heap[w.heap.size]? = some (.cells (eagg v { p with sp := p1, Ap := A3, cp := c3 }) 36 (0, 0)) from setP v { p with sp := p1 } A3 c3 ▸ blk_set K0.out 31 _)
  replace ZZ := Aside0.mk (blk_far ZZ.out (p := ⟨w.heap.size, 31, none⟩) (by show w.heap.size + 1 ≠ w.heap.size; omega) (.slice A3 v.ps.length c3))
  replace HB := Aside0.mk (HB.out.setCell (p := ⟨w.heap.size, 31, none⟩) (Nat.le_refl _) (.slice A3 v.ps.length c3))
  replace PF := Aside0.mk (keepS PF.out (agree_set w3 ⟨w.heap.size, 31, none⟩ (.slice A3 v.ps.length c3) (by show w.heap.size < w.heap.size + 2; omega)) (by simp [World.setCell]))
  replace F3 := Aside0.mk (fr_set F3.out ⟨w.heap.size, 31, none⟩ (.slice A3 v.ps.length c3) (by show w.heap.size < w.heap.size + 2; omega))
  replace S1 := Aside0.mk (show w.heap.size + 2 ≤ (w3.setCell ⟨w.heap.size, 31, none⟩ (.slice A3 v.ps.length c3)).heap.size by have := S1.out; simpa [World.setCell] using this)
  clear k1 kf
  generalize w3.setCell ⟨w.heap.size, 31, none⟩ (.slice A3 v.ps.length c3) = w4 at K0 ZZ HB PF F3 S1 ⊢
  have k1 : w4.cell? ⟨w.heap.size, 37, none⟩ = some (.slice p.Ax v.ex.length p.cx) := (blk_cell K0.out 37).trans (at37 _ _)
  go_wp2_with fail
  refine (Clo.line (At k55 w) rfl p.Ax p.cx v.ex w4 (C_at OK.out.hx HB.out) (by have := HS.out.2.2.1; omega)).mono ?_
  rintro q w5 ⟨A5, c5, rfl, hc5, hrow5, hb⟩
  have HC5 := Aside0.mk hc5
  have MO := Aside0.mk (show 0 < v.ex.length → ∃ gr, A5 = some ⟨gr, 0, none⟩ ∧ w4.heap.size ≤ gr ∧ gr < (w5.setCell ⟨w.heap.size, 37, none⟩ (.slice A5 v.ex.length c5)).heap.size ∧ Mid w gr v.ex 0 (w5.setCell ⟨w.heap.size, 37, none⟩ (.slice A5 v.ex.length c5)) from fun hp => by
    obtain ⟨g, cells, e, _⟩ := hrow5 hp
    obtain ⟨h1, h2, h3⟩ := Mid.start hrow5 hp e
    have := S1.out
    exact ⟨g, e, h1, by simpa [World.setCell] using h2, h3.far _ _ (by show w.heap.size < g; omega)⟩)
  have AG := Aside0.mk (agree_trans (n := w.heap.size + 2) (agree_below hb) (agree_set w5 ⟨w.heap.size, 37, none⟩ (.slice A5 v.ex.length c5) (by show w.heap.size < w.heap.size + 2; omega)) hb.size)
  have SG := Aside0.mk (show w4.heap.size ≤ (w5.setCell ⟨w.heap.size, 37, none⟩ (.slice A5 v.ex.length c5)).heap.size by have := hb.size; simpa [World.setCell] using this)
  replace K0 := Aside0.mk (blk_below K0.out hb); replace ZZ := Aside0.mk (blk_below ZZ.out hb); replace HB := Aside0.mk (below_then HB.out HB.out.size hb)
  have kf := blk_frozen K0.out 37
  replace k1 := pw_cell_below hb k1
  clear hrow5 hc5 hb
  go_upto_region 4 with fail
  replace K0 := Aside0.mk (show (w5.setCell ⟨w.heap.size, 37, none⟩ (.slice A5 v.ex.length c5)).heap[w.heap.size]? = some (.cells (eagg v ⟨p1, A3, c3, A5, c5⟩) 36 (0, 0)) from setX v ⟨p1, A3, c3, p.Ax, p.cx⟩ A5 c5 ▸ blk_set K0.out 37 _)
  replace ZZ := Aside0.mk (blk_far ZZ.out (p := ⟨w.heap.size, 37, none⟩) (by show w.heap.size + 1 ≠ w.heap.size; omega) (.slice A5 v.ex.length c5))
  replace HB := Aside0.mk (HB.out.setCell (p := ⟨w.heap.size, 37, none⟩) (Nat.le_refl _) (.slice A5 v.ex.length c5))
  clear k1 kf
  generalize w5.setCell ⟨w.heap.size, 37, none⟩ (.slice A5 v.ex.length c5) = w6 at K0 ZZ HB MO AG SG ⊢
  have k1 : w6.cell? ⟨w.heap.size, 37, none⟩ = some (.slice A5 v.ex.length c5) := (blk_cell K0.out 37).trans (at37 _ _)
  go_wp2_with fail
  go_loopg [19] v.ex.length (fun kq v19 w' => ∃ (i : Nat) (X : Int), v19 = .int .i64 X ∧ Aside0 (X = (i : Int)) ∧ Aside0 (i + kq = v.ex.length) ∧ Aside0 (w'.heap[w.heap.size]? = some (.cells (eagg v ⟨p1, A3, c3, A5, c5⟩) 36 (0, 0))) ∧ Aside0 (w'.heap[w.heap.size + 1]? = some (.cells ze 36 (0, 0))) ∧ Aside0 (0 < v.ex.length → ∃ gr, A5 = some ⟨gr, 0, none⟩ ∧ w4.heap.size ≤ gr ∧ gr < w'.heap.size ∧ Mid w gr v.ex i w') ∧ Aside0 (Below w.heap.size w w') ∧ Aside0 (Agree (w.heap.size + 2) w4 w') ∧ Aside0 (w4.heap.size ≤ w'.heap.size))
  case atStart => exact ⟨0, 0, rfl, ⟨rfl⟩, ⟨by omega⟩, K0, ZZ, MO, HB, AG, SG⟩
  case round =>
    clear K0 ZZ MO HB k1 AG SG
    obtain ⟨i, X, rfl, HX, HI, K0, ZZ, MO, HB, AG, SG⟩ := hrel
    cases gk with
    | zero =>
      have l1 : decide (X < (v.ex.length : Int)) = false := decide_eq_false (by have := HX.out; have := HI.out; omega)
      have GF := Aside0.mk (show OkEF v ⟨p1, A3, c3, A5, c5⟩ (w.heap.size + 2) wr from mkF (keepS PF.out AG.out SG.out) (F3.out.keep AG.out SG.out) (by
        by_cases hn : 0 < v.ex.length
        · obtain ⟨gr, rfl, g1, g2, hM⟩ := MO.out hn
          have e : i = v.ex.length := by have := HI.out; omega
          subst e
          exact (Mid.fr hM g2 HC5.out HS.out.2.2.1).lower (by have := S1.out; omega)
        · exact Fr.slice HC5.out (by have := HS.out.2.2.1; omega) (fun q => absurd q hn)))
      clear PF F3 MO AG SG
      go_wp2_with (first | ((with_reducible refine gate_ (.load 36 (.tmp 1)) rfl ?_); (try (refine gate_guard (by rfl) ?_; dsimp only)); refine Kd.event_run rfl (xR (.tmp 1) w.heap.size v _ rfl rfl _ K0.out) ?_) | ((with_reducible refine gate_ (.store 36 (.tmp 2) (.tmp 33)) rfl ?_); (try (refine gate_guard (by rfl) ?_; dsimp only)); refine wpList_store_row rfl 36 (.tmp 2) (.tmp 33) rfl (w.heap.size + 1) (eagg v ⟨p1, A3, c3, A5, c5⟩) rfl rfl 36 ze ZZ.out szE rfl (oneE _ _) ?_))
      have PZ := setRow_heap wr (w.heap.size + 1) _ (eagg v ⟨p1, A3, c3, A5, c5⟩) _ _ ZZ.out
      refine bodyPost_ret (v := .agg (eagg v ⟨p1, A3, c3, A5, c5⟩)) (results_cell Try.results18 rfl (ldE PZ)) rfl ⟨_, rfl, ⟨fun w' hw => GF.out.h w' fun k h1 h2 => ?_⟩, ?_⟩
      · exact (hw k (by omega) (by rw [setRow_size]; exact h2)).trans (setRow_other _ _ _ _ (by omega))
      · have hB := HB.out
        exact ⟨hB.os, hB.tape, hB.output, by rw [setRow_size]; exact hB.size, fun k hk => (setRow_other _ _ _ _ (by omega)).trans (hB.block k hk)⟩
    | succ k1_ =>
      have hi : i < v.ex.length := by have := HI.out; omega
      have p1_ : 0 ≤ X := by have := HX.out; omega
      have q1 : X < (v.ex.length : Int) := by have := HX.out; omega
      have l1 : decide (X < (v.ex.length : Int)) = true := decide_eq_true q1
      have nx : wrap64 (X + 1) = X + 1 := by have := HX.out; have := HI.out; have := HS.out.2.2.1; unfold wrap64; omega
      obtain ⟨gr, rfl, g1, g2, hM⟩ := MO.out (by omega)
      have GM := Aside0.mk hM
      obtain ⟨cells, hc1, hc2⟩ := hM
      have hpi := List.getElem?_eq_getElem hi
      have hmem := HS.out.2.2.2 _ (List.getElem_mem hi)
      obtain ⟨l, hl⟩ : ∃ l, v.ex[i] = l := ⟨_, rfl⟩
      rw [hl] at hpi hmem
      obtain ⟨u, e1, e2, e3, _, e5⟩ := hc2 i l hpi
      obtain ⟨A1, c1, hv, hl1, hCv⟩ := e5 (Nat.le_refl _)
      obtain rfl : u = .slice A1 l.f1.length c1 := by simpa using hv
      have k1 : wr.cell? ⟨w.heap.size, 37, none⟩ = some (.slice (some ⟨gr, 0, none⟩) v.ex.length c5) := (blk_cell K0.out 37).trans (at37 _ _)
      have kr0 : wr.cell? ⟨gr, X.toNat * 3, none⟩ = some (.string l.f0) := by rw [HX.out, Int.toNat_natCast]; exact (blk_cell hc1 (i * 3)).trans e1
      have kr1 : wr.cell? ⟨gr, X.toNat * 3 + 1, none⟩ = some (.slice A1 l.f1.length c1) := by rw [HX.out, Int.toNat_natCast]; exact (blk_cell hc1 (i * 3 + 1)).trans e2
      have kr2 : wr.cell? ⟨gr, X.toNat * 3 + 2, none⟩ = some (.string l.f2) := by rw [HX.out, Int.toNat_natCast]; exact (blk_cell hc1 (i * 3 + 2)).trans e3
      have HP := Aside0.mk hpi; have HM := Aside0.mk hmem; have CV := Aside0.mk hCv; have G1 := Aside0.mk g1; have G2 := Aside0.mk g2; have BC := Aside0.mk hc1
      replace p1_ := eq_true p1_; replace q1 := eq_true q1
      clear hc1 hc2 hpi hmem hl e1 e2 e3 e5 hv hl1 hCv g1 g2 hi MO
      go_upto_region 7 with fail
      have HR := Aside0.mk (below_drew1 (Below.refl wr.heap.size wr))
      refine start_ (n := 11) (S := fun w' => w'.cell? ⟨w.heap.size, 37, none⟩ = some (.slice (some ⟨gr, 0, none⟩) v.ex.length c5) ∧ w'.cell? ⟨gr, X.toNat * 3, none⟩ = some (.string l.f0) ∧ w'.cell? ⟨gr, X.toNat * 3 + 1, none⟩ = some (.slice A1 l.f1.length c1) ∧ w'.cell? ⟨gr, X.toNat * 3 + 2, none⟩ = some (.string l.f2)) (ds := [10]) (tt 11 0) (by kernel_rfl) rfl rfl ⟨pw_cell_below (below_drew1 (Below.refl _ _)) k1, pw_cell_below (below_drew1 (Below.refl _ _)) kr0, pw_cell_below (below_drew1 (Below.refl _ _)) kr1, pw_cell_below (below_drew1 (Below.refl _ _)) kr2⟩ (fun hHeld => ?_)
      refine with_tabW tabc7 bitsc7 (fun HT_ HW_ => ?_)
      generalize wr.drew = wd_ at HR hHeld ⊢
      refine pure_ (i := 0) (N := some 22) (v := ?_) (a' := ?_) (tt 11 1) rfl rfl (any_of HT_.out (by kernel_rfl)) (fun _ _ _ h => h) (Or.inl ⟨by rfl, ?_⟩) ?_ ?_
      rotate_left
      · intro w'
        go_simp
        with_reducible rfl
      rotate_left
      · simp only [Act.put, List.setIfInBounds_toArray, List.set_cons_zero, List.set_cons_succ, i64_w, i32_w]
        rfl
      refine take_ (i := 1) (N := some 23) (v := ?_) (a' := ?_) (tt 11 2) rfl rfl (take_ofW HT_.out HW_.out (by kernel_rfl)) (fun _ _ _ h => h) (Or.inl ⟨by rfl, ?_⟩) hHeld ?_ ?_
      rotate_left
      · rintro w' ⟨s0, s1, s2, s3⟩
        go_simp
        with_reducible rfl
      rotate_left
      · simp only [Act.put, List.setIfInBounds_toArray, List.set_cons_zero, List.set_cons_succ, i64_w, i32_w]
        rfl
      refine pure_ (i := 2) (N := some 24) (v := ?_) (a' := ?_) (tt 11 3) rfl rfl (any_of HT_.out (by kernel_rfl)) (fun _ _ _ h => h) (Or.inl ⟨by rfl, ?_⟩) ?_ ?_
      rotate_left
      · intro w'
        go_simp
        with_reducible rfl
      rotate_left
      · simp only [Act.put, List.setIfInBounds_toArray, List.set_cons_zero, List.set_cons_succ, i64_w, i32_w]
        rfl
      refine pure_ (i := 3) (N := some 25) (v := ?_) (a' := ?_) (tt 11 4) rfl rfl (any_of HT_.out (by kernel_rfl)) (fun _ _ _ h => h) (Or.inl ⟨by rfl, ?_⟩) ?_ ?_
      rotate_left
      · intro w'
        go_simp
        with_reducible rfl
      rotate_left
      · simp only [Act.put, List.setIfInBounds_toArray, List.set_cons_zero, List.set_cons_succ, i64_w, i32_w]
        rfl
      refine take_ (i := 4) (N := some 26) (v := ?_) (a' := ?_) (tt 11 5) rfl rfl (take_ofW HT_.out HW_.out (by kernel_rfl)) (fun _ _ _ h => h) (Or.inl ⟨by rfl, ?_⟩) hHeld ?_ ?_
      rotate_left
      · rintro w' ⟨s0, s1, s2, s3⟩
        go_simp
        with_reducible rfl
      rotate_left
      · simp only [Act.put, List.setIfInBounds_toArray, List.set_cons_zero, List.set_cons_succ, i64_w, i32_w]
        rfl
      refine pure_ (i := 5) (N := some 27) (v := ?_) (a' := ?_) (tt 11 6) rfl rfl (any_of HT_.out (by kernel_rfl)) (fun _ _ _ h => h) (Or.inl ⟨by rfl, ?_⟩) ?_ ?_
      rotate_left
      · intro w'
        go_simp
        with_reducible rfl
      rotate_left
      · simp only [Act.put, List.setIfInBounds_toArray, List.set_cons_zero, List.set_cons_succ, i64_w, i32_w]
        rfl
      refine pure_ (i := 6) (N := some 28) (v := ?_) (a' := ?_) (tt 11 7) rfl rfl (any_of HT_.out (by kernel_rfl)) (fun _ _ _ h => h) (Or.inl ⟨by rfl, ?_⟩) ?_ ?_
      rotate_left
      · intro w'
        go_simp
        with_reducible rfl
      rotate_left
      · simp only [Act.put, List.setIfInBounds_toArray, List.set_cons_zero, List.set_cons_succ, i64_w, i32_w]
        rfl
      refine take_ (i := 7) (N := some 29) (v := ?_) (a' := ?_) (tt 11 8) rfl rfl (take_ofW HT_.out HW_.out (by kernel_rfl)) (fun _ _ _ h => h) (Or.inl ⟨by rfl, ?_⟩) hHeld ?_ ?_
      rotate_left
      · rintro w' ⟨s0, s1, s2, s3⟩
        go_simp
        with_reducible rfl
      rotate_left
      · simp only [Act.put, List.setIfInBounds_toArray, List.set_cons_zero, List.set_cons_succ, i64_w, i32_w]
        rfl
      refine one_ (i := 8) (N := some 30) (tt 11 9) rfl rfl (one_of HT_.out (by kernel_rfl)) (by decide) (fun K hK => ?_)
      refine goes_ Try.func39 (by kernel_rfl) rfl #[.agg #[.string l.f0, .slice A1 l.f1.length c1, .string l.f2]] (by rfl) rfl rfl (by (try simp only [List.map_toArray, List.map_cons, List.map_nil]); first | done | rfl) ?_
      refine (LinC.clone l A1 c1 _ (Kd.C_below CV.out (below_then HB.out HB.out.size HR.out)) HM.out.1 HM.out.2).mono ?_
      rintro q wq1 ⟨A2, c2, rfl, hF2, hb⟩
      refine ⟨_, rfl, ?_⟩
      have SR := Aside0.mk HR.out.size
      replace HR := Aside0.mk (below_then HR.out HR.out.size hb)
      have F2 := Aside0.mk hF2
      refine hK.out _ _ ⟨pw_cell_below hb hHeld.1, pw_cell_below hb hHeld.2.1, pw_cell_below hb hHeld.2.2.1, pw_cell_below hb hHeld.2.2.2⟩ (fun hHeld => ?_)
      clear hK K
      refine norm_ (a' := ?_) ?_ ?_
      rotate_left
      · show Act.put _ (some 30) _ = _
        simp only [Act.put, List.setIfInBounds_toArray, List.set_cons_zero, List.set_cons_succ, i64_w, i32_w]
        rfl
      refine pure_ (i := 9) (N := some 31) (v := ?_) (a' := ?_) (tt 11 10) rfl rfl (any_of HT_.out (by kernel_rfl)) (fun _ _ _ h => h) (Or.inl ⟨by rfl, ?_⟩) ?_ ?_
      rotate_left
      · intro w'
        go_simp
        with_reducible rfl
      rotate_left
      · simp only [Act.put, List.setIfInBounds_toArray, List.set_cons_zero, List.set_cons_succ, i64_w, i32_w]
        rfl
      refine last_ (i := 10) (N := none) (tt 11 11) rfl rfl (one_of HT_.out (by kernel_rfl)) (by decide) (fun K hK => ?_)
      have kz0 := hHeld.2.1
      have kz1 := hHeld.2.2.1
      have kz2 := hHeld.2.2.2
      have kf0 := blk_frozen (blk_below BC.out HR.out) (X.toNat * 3)
      have kf1 := blk_frozen (blk_below BC.out HR.out) (X.toNat * 3 + 1)
      have kf2 := blk_frozen (blk_below BC.out HR.out) (X.toNat * 3 + 2)
      refine skip_ (w1 := ?_) (by rfl) rfl ?_ ?_
      rotate_left
      · go_simp
        rfl
      refine hK.out _ _ ?_
      clear hK K
      refine done_ (done_of HT_.out (by kernel_rfl)) ?_
      clear HT_ HW_
      have FV := Aside0.mk (lineF F2.out (show gr + 1 ≤ _ by have := G2.out; have := SR.out; omega))
      go_wp2_with fail
      go_roundg k1_
      case measure => omega
      case rel =>
        have b1 := S1.out
        have b2 := G1.out
        refine ⟨i + 1, X + 1, by simp [nx], ⟨by have := HX.out; push_cast; omega⟩, ⟨by have := HI.out; omega⟩, ⟨blk_far (blk_far (blk_far (blk_below K0.out HR.out) (by show w.heap.size ≠ gr; omega) _) (by show w.heap.size ≠ gr; omega) _) (by show w.heap.size ≠ gr; omega) _⟩, ⟨blk_far (blk_far (blk_far (blk_below ZZ.out HR.out) (by show w.heap.size + 1 ≠ gr; omega) _) (by show w.heap.size + 1 ≠ gr; omega) _) (by show w.heap.size + 1 ≠ gr; omega) _⟩, ⟨fun _ => ⟨gr, rfl, G1.out, ?_, ?_⟩⟩, ⟨(((below_then HB.out HB.out.size HR.out).setCell (p := ⟨gr, X.toNat * 3, none⟩) (by show w.heap.size ≤ gr; omega) _).setCell (p := ⟨gr, X.toNat * 3 + 1, none⟩) (by show w.heap.size ≤ gr; omega) _).setCell (p := ⟨gr, X.toNat * 3 + 2, none⟩) (by show w.heap.size ≤ gr; omega) _⟩, ⟨agree_far (agree_far (agree_far (agree_trans AG.out (agree_below HR.out) SG.out) _ _ (by show w4.heap.size ≤ gr; omega)) _ _ (by show w4.heap.size ≤ gr; omega)) _ _ (by show w4.heap.size ≤ gr; omega)⟩, ⟨by have := SG.out; have := HR.out.size; simp [World.setCell]; omega⟩⟩
        · have := G2.out; have := HR.out.size; simp [World.setCell]; omega
        · have e := HX.out
          subst e
          exact Mid.step (GM.out.below HR.out) HP.out FV.out
      end Go.Proofs.Ytddoidcbpcmlaaa.EvC
/- trystref12.Lists: a rule's eight lists of numbers. (Written by gen_refl.py.) -/
namespace Go.Proofs.Ytddoidcbpcmlaaa.RefL
open Go.RowKit Go.Proofs.YtddoidcbpcmlaaaW.PrintWords Go.Proofs.YtddoidcbpcmlaaaW.PrintLast Go.Proofs.YtddoidcbpcmlaaaW.PrintMore Go.Proofs.Ytddoidcbpcmlaaa.M
set_option linter.unusedVariables false
set_option linter.unusedSimpArgs false
set_option maxHeartbeats 2000000 in
set_option maxRecDepth 100000 in
theorem lists_ (a0 : Int) (a1 : Int) (a2 : Int) (a3 : Int) (a4 : Int) (a5 : ByteArray) (a6 : Bool) (a7 : Int) (A8 : Option Addr) (c8 : Nat) (l8 : List Int) (A9 : Option Addr) (c9 : Nat) (l9 : List Int) (A10 : Option Addr) (c10 : Nat) (l10 : List Int) (A11 : Option Addr) (c11 : Nat) (l11 : List S139) (A12 : Option Addr) (c12 : Nat) (l12 : List Int) (A13 : Option Addr) (c13 : Nat) (l13 : List Int) (A14 : Option Addr) (c14 : Nat) (l14 : List Int) (A15 : Option Addr) (c15 : Nat) (l15 : List Int) (A16 : Option Addr) (c16 : Nat) (l16 : List Int) (w : World) :
    Calls Try.prog 68 #[.agg #[.int .i64 a0, .int .i64 a1, .int .i64 a2, .int .i64 a3, .int .i64 a4, .string a5, .bool a6, .int .i64 a7, .slice A8 l8.length c8, .slice A9 l9.length c9, .slice A10 l10.length c10, .slice A11 l11.length c11, .slice A12 l12.length c12, .slice A13 l13.length c13, .slice A14 l14.length c14, .slice A15 l15.length c15, .slice A16 l16.length c16]] w fun e w' => e = .returned (.agg #[.slice A8 l8.length c8, .slice A9 l9.length c9, .slice A10 l10.length c10, .slice A12 l12.length c12, .slice A13 l13.length c13, .slice A14 l14.length c14, .slice A15 l15.length c15, .slice A16 l16.length c16]) ∧ Below w.heap.size w w' := by
  have HB := Aside0.mk (below_alloc (Below.refl w.heap.size w) (.cells #[.int .i64 a0, .int .i64 a1, .int .i64 a2, .int .i64 a3, .int .i64 a4, .string a5, .bool a6, .int .i64 a7, .slice A8 l8.length c8, .slice A9 l9.length c9, .slice A10 l10.length c10, .slice A11 l11.length c11, .slice A12 l12.length c12, .slice A13 l13.length c13, .slice A14 l14.length c14, .slice A15 l15.length c15, .slice A16 l16.length c16] 29 (0, 0)))
  go_enter Try.func68, Try.ntmps68
  go_wp2_with fail
  have k8 : ∀ ob, ((w.alloc (.cells #[.int .i64 a0, .int .i64 a1, .int .i64 a2, .int .i64 a3, .int .i64 a4, .string a5, .bool a6, .int .i64 a7, .slice A8 l8.length c8, .slice A9 l9.length c9, .slice A10 l10.length c10, .slice A11 l11.length c11, .slice A12 l12.length c12, .slice A13 l13.length c13, .slice A14 l14.length c14, .slice A15 l15.length c15, .slice A16 l16.length c16] 29 (0, 0))).alloc ob).cell? ⟨w.heap.size, 8, none⟩ = some (.slice A8 l8.length c8) := fun ob => pw_cell_below (below_alloc (Below.refl _ _) ob) ((blk_cell (blk_new w (.cells #[.int .i64 a0, .int .i64 a1, .int .i64 a2, .int .i64 a3, .int .i64 a4, .string a5, .bool a6, .int .i64 a7, .slice A8 l8.length c8, .slice A9 l9.length c9, .slice A10 l10.length c10, .slice A11 l11.length c11, .slice A12 l12.length c12, .slice A13 l13.length c13, .slice A14 l14.length c14, .slice A15 l15.length c15, .slice A16 l16.length c16] 29 (0, 0))) 8).trans rfl)
  have k9 : ∀ ob, ((w.alloc (.cells #[.int .i64 a0, .int .i64 a1, .int .i64 a2, .int .i64 a3, .int .i64 a4, .string a5, .bool a6, .int .i64 a7, .slice A8 l8.length c8, .slice A9 l9.length c9, .slice A10 l10.length c10, .slice A11 l11.length c11, .slice A12 l12.length c12, .slice A13 l13.length c13, .slice A14 l14.length c14, .slice A15 l15.length c15, .slice A16 l16.length c16] 29 (0, 0))).alloc ob).cell? ⟨w.heap.size, 9, none⟩ = some (.slice A9 l9.length c9) := fun ob => pw_cell_below (below_alloc (Below.refl _ _) ob) ((blk_cell (blk_new w (.cells #[.int .i64 a0, .int .i64 a1, .int .i64 a2, .int .i64 a3, .int .i64 a4, .string a5, .bool a6, .int .i64 a7, .slice A8 l8.length c8, .slice A9 l9.length c9, .slice A10 l10.length c10, .slice A11 l11.length c11, .slice A12 l12.length c12, .slice A13 l13.length c13, .slice A14 l14.length c14, .slice A15 l15.length c15, .slice A16 l16.length c16] 29 (0, 0))) 9).trans rfl)
  have k10 : ∀ ob, ((w.alloc (.cells #[.int .i64 a0, .int .i64 a1, .int .i64 a2, .int .i64 a3, .int .i64 a4, .string a5, .bool a6, .int .i64 a7, .slice A8 l8.length c8, .slice A9 l9.length c9, .slice A10 l10.length c10, .slice A11 l11.length c11, .slice A12 l12.length c12, .slice A13 l13.length c13, .slice A14 l14.length c14, .slice A15 l15.length c15, .slice A16 l16.length c16] 29 (0, 0))).alloc ob).cell? ⟨w.heap.size, 10, none⟩ = some (.slice A10 l10.length c10) := fun ob => pw_cell_below (below_alloc (Below.refl _ _) ob) ((blk_cell (blk_new w (.cells #[.int .i64 a0, .int .i64 a1, .int .i64 a2, .int .i64 a3, .int .i64 a4, .string a5, .bool a6, .int .i64 a7, .slice A8 l8.length c8, .slice A9 l9.length c9, .slice A10 l10.length c10, .slice A11 l11.length c11, .slice A12 l12.length c12, .slice A13 l13.length c13, .slice A14 l14.length c14, .slice A15 l15.length c15, .slice A16 l16.length c16] 29 (0, 0))) 10).trans rfl)
  have k12 : ∀ ob, ((w.alloc (.cells #[.int .i64 a0, .int .i64 a1, .int .i64 a2, .int .i64 a3, .int .i64 a4, .string a5, .bool a6, .int .i64 a7, .slice A8 l8.length c8, .slice A9 l9.length c9, .slice A10 l10.length c10, .slice A11 l11.length c11, .slice A12 l12.length c12, .slice A13 l13.length c13, .slice A14 l14.length c14, .slice A15 l15.length c15, .slice A16 l16.length c16] 29 (0, 0))).alloc ob).cell? ⟨w.heap.size, 12, none⟩ = some (.slice A12 l12.length c12) := fun ob => pw_cell_below (below_alloc (Below.refl _ _) ob) ((blk_cell (blk_new w (.cells #[.int .i64 a0, .int .i64 a1, .int .i64 a2, .int .i64 a3, .int .i64 a4, .string a5, .bool a6, .int .i64 a7, .slice A8 l8.length c8, .slice A9 l9.length c9, .slice A10 l10.length c10, .slice A11 l11.length c11, .slice A12 l12.length c12, .slice A13 l13.length c13, .slice A14 l14.length c14, .slice A15 l15.length c15, .slice A16 l16.length c16] 29 (0, 0))) 12).trans rfl)
  have k13 : ∀ ob, ((w.alloc (.cells #[.int .i64 a0, .int .i64 a1, .int .i64 a2, .int .i64 a3, .int .i64 a4, .string a5, .bool a6, .int .i64 a7, .slice A8 l8.length c8, .slice A9 l9.length c9, .slice A10 l10.length c10, .slice A11 l11.length c11, .slice A12 l12.length c12, .slice A13 l13.length c13, .slice A14 l14.length c14, .slice A15 l15.length c15, .slice A16 l16.length c16] 29 (0, 0))).alloc ob).cell? ⟨w.heap.size, 13, none⟩ = some (.slice A13 l13.length c13) := fun ob => pw_cell_below (below_alloc (Below.refl _ _) ob) ((blk_cell (blk_new w (.cells #[.int .i64 a0, .int .i64 a1, .int .i64 a2, .int .i64 a3, .int .i64 a4, .string a5, .bool a6, .int .i64 a7, .slice A8 l8.length c8, .slice A9 l9.length c9, .slice A10 l10.length c10, .slice A11 l11.length c11, .slice A12 l12.length c12, .slice A13 l13.length c13, .slice A14 l14.length c14, .slice A15 l15.length c15, .slice A16 l16.length c16] 29 (0, 0))) 13).trans rfl)
  have k14 : ∀ ob, ((w.alloc (.cells #[.int .i64 a0, .int .i64 a1, .int .i64 a2, .int .i64 a3, .int .i64 a4, .string a5, .bool a6, .int .i64 a7, .slice A8 l8.length c8, .slice A9 l9.length c9, .slice A10 l10.length c10, .slice A11 l11.length c11, .slice A12 l12.length c12, .slice A13 l13.length c13, .slice A14 l14.length c14, .slice A15 l15.length c15, .slice A16 l16.length c16] 29 (0, 0))).alloc ob).cell? ⟨w.heap.size, 14, none⟩ = some (.slice A14 l14.length c14) := fun ob => pw_cell_below (below_alloc (Below.refl _ _) ob) ((blk_cell (blk_new w (.cells #[.int .i64 a0, .int .i64 a1, .int .i64 a2, .int .i64 a3, .int .i64 a4, .string a5, .bool a6, .int .i64 a7, .slice A8 l8.length c8, .slice A9 l9.length c9, .slice A10 l10.length c10, .slice A11 l11.length c11, .slice A12 l12.length c12, .slice A13 l13.length c13, .slice A14 l14.length c14, .slice A15 l15.length c15, .slice A16 l16.length c16] 29 (0, 0))) 14).trans rfl)
  have k15 : ∀ ob, ((w.alloc (.cells #[.int .i64 a0, .int .i64 a1, .int .i64 a2, .int .i64 a3, .int .i64 a4, .string a5, .bool a6, .int .i64 a7, .slice A8 l8.length c8, .slice A9 l9.length c9, .slice A10 l10.length c10, .slice A11 l11.length c11, .slice A12 l12.length c12, .slice A13 l13.length c13, .slice A14 l14.length c14, .slice A15 l15.length c15, .slice A16 l16.length c16] 29 (0, 0))).alloc ob).cell? ⟨w.heap.size, 15, none⟩ = some (.slice A15 l15.length c15) := fun ob => pw_cell_below (below_alloc (Below.refl _ _) ob) ((blk_cell (blk_new w (.cells #[.int .i64 a0, .int .i64 a1, .int .i64 a2, .int .i64 a3, .int .i64 a4, .string a5, .bool a6, .int .i64 a7, .slice A8 l8.length c8, .slice A9 l9.length c9, .slice A10 l10.length c10, .slice A11 l11.length c11, .slice A12 l12.length c12, .slice A13 l13.length c13, .slice A14 l14.length c14, .slice A15 l15.length c15, .slice A16 l16.length c16] 29 (0, 0))) 15).trans rfl)
  have k16 : ∀ ob, ((w.alloc (.cells #[.int .i64 a0, .int .i64 a1, .int .i64 a2, .int .i64 a3, .int .i64 a4, .string a5, .bool a6, .int .i64 a7, .slice A8 l8.length c8, .slice A9 l9.length c9, .slice A10 l10.length c10, .slice A11 l11.length c11, .slice A12 l12.length c12, .slice A13 l13.length c13, .slice A14 l14.length c14, .slice A15 l15.length c15, .slice A16 l16.length c16] 29 (0, 0))).alloc ob).cell? ⟨w.heap.size, 16, none⟩ = some (.slice A16 l16.length c16) := fun ob => pw_cell_below (below_alloc (Below.refl _ _) ob) ((blk_cell (blk_new w (.cells #[.int .i64 a0, .int .i64 a1, .int .i64 a2, .int .i64 a3, .int .i64 a4, .string a5, .bool a6, .int .i64 a7, .slice A8 l8.length c8, .slice A9 l9.length c9, .slice A10 l10.length c10, .slice A11 l11.length c11, .slice A12 l12.length c12, .slice A13 l13.length c13, .slice A14 l14.length c14, .slice A15 l15.length c15, .slice A16 l16.length c16] 29 (0, 0))) 16).trans rfl)
  go_wp2_with fail
  refine bodyPost_ret (v := .agg #[.slice A8 l8.length c8, .slice A9 l9.length c9, .slice A10 l10.length c10, .slice A12 l12.length c12, .slice A13 l13.length c13, .slice A14 l14.length c14, .slice A15 l15.length c15, .slice A16 l16.length c16]) ?_ rfl ⟨rfl, below_alloc HB.out _⟩
  clear HB k8 k9 k10 k12 k13 k14 k15 k16
  simp [results, Try.f68, go_sem]

/-- How many numbers and days. -/
def sm (d : Nat) (l : List Nat) : Int := l.foldl (fun (a : Int) (n : Nat) => wrap64 (a + (n : Int))) (d : Int)
def few (d : Nat) (l : List Nat) : Bool := decide (sm d l ≤ 500)
set_option maxHeartbeats 4000000 in
set_option maxRecDepth 100000 in
theorem few0 (a0 : Int) (a1 : Int) (a2 : Int) (a3 : Int) (a4 : Int) (a5 : ByteArray) (a6 : Bool) (a7 : Int) (A8 : Option Addr) (c8 : Nat) (l8 : List Int) (A9 : Option Addr) (c9 : Nat) (l9 : List Int) (A10 : Option Addr) (c10 : Nat) (l10 : List Int) (A11 : Option Addr) (c11 : Nat) (l11 : List S139) (A12 : Option Addr) (c12 : Nat) (l12 : List Int) (A13 : Option Addr) (c13 : Nat) (l13 : List Int) (A14 : Option Addr) (c14 : Nat) (l14 : List Int) (A15 : Option Addr) (c15 : Nat) (l15 : List Int) (A16 : Option Addr) (c16 : Nat) (l16 : List Int) (f : Nat → Int) (hf : f 0 = (l11.length : Int)) (hf0 : f 1 = wrap64 (f 0 + (l8.length : Int))) (hf1 : f 2 = wrap64 (f 1 + (l9.length : Int))) (hf2 : f 3 = wrap64 (f 2 + (l10.length : Int))) (hf3 : f 4 = wrap64 (f 3 + (l12.length : Int))) (hf4 : f 5 = wrap64 (f 4 + (l13.length : Int))) (hf5 : f 6 = wrap64 (f 5 + (l14.length : Int))) (hf6 : f 7 = wrap64 (f 6 + (l15.length : Int))) (hf7 : f 8 = wrap64 (f 7 + (l16.length : Int))) (w : World) :
    Calls Try.prog 49 #[.agg #[.int .i64 a0, .int .i64 a1, .int .i64 a2, .int .i64 a3, .int .i64 a4, .string a5, .bool a6, .int .i64 a7, .slice A8 l8.length c8, .slice A9 l9.length c9, .slice A10 l10.length c10, .slice A11 l11.length c11, .slice A12 l12.length c12, .slice A13 l13.length c13, .slice A14 l14.length c14, .slice A15 l15.length c15, .slice A16 l16.length c16]] w fun e w' => e = .returned (.bool (decide (f 8 ≤ 500))) ∧ Below w.heap.size w w' := by
  have HF := Aside0.mk hf
  clear hf
  have HF0 := Aside0.mk hf0; clear hf0
  have HF1 := Aside0.mk hf1; clear hf1
  have HF2 := Aside0.mk hf2; clear hf2
  have HF3 := Aside0.mk hf3; clear hf3
  have HF4 := Aside0.mk hf4; clear hf4
  have HF5 := Aside0.mk hf5; clear hf5
  have HF6 := Aside0.mk hf6; clear hf6
  have HF7 := Aside0.mk hf7; clear hf7
  have hK0 : (w.alloc (.cells #[.int .i64 a0, .int .i64 a1, .int .i64 a2, .int .i64 a3, .int .i64 a4, .string a5, .bool a6, .int .i64 a7, .slice A8 l8.length c8, .slice A9 l9.length c9, .slice A10 l10.length c10, .slice A11 l11.length c11, .slice A12 l12.length c12, .slice A13 l13.length c13, .slice A14 l14.length c14, .slice A15 l15.length c15, .slice A16 l16.length c16] 29 (0, 0))).heap[w.heap.size]? = some (.cells #[.int .i64 a0, .int .i64 a1, .int .i64 a2, .int .i64 a3, .int .i64 a4, .string a5, .bool a6, .int .i64 a7, .slice A8 l8.length c8, .slice A9 l9.length c9, .slice A10 l10.length c10, .slice A11 l11.length c11, .slice A12 l12.length c12, .slice A13 l13.length c13, .slice A14 l14.length c14, .slice A15 l15.length c15, .slice A16 l16.length c16] 29 (0, 0)) := blk_new w _
  have HK := Aside0.mk hK0
  have HB := Aside0.mk (below_alloc (Below.refl w.heap.size w) (.cells #[.int .i64 a0, .int .i64 a1, .int .i64 a2, .int .i64 a3, .int .i64 a4, .string a5, .bool a6, .int .i64 a7, .slice A8 l8.length c8, .slice A9 l9.length c9, .slice A10 l10.length c10, .slice A11 l11.length c11, .slice A12 l12.length c12, .slice A13 l13.length c13, .slice A14 l14.length c14, .slice A15 l15.length c15, .slice A16 l16.length c16] 29 (0, 0)))
  clear hK0
  go_enter Try.func49, Try.ntmps49
  go_wp2_with fail
  generalize w.alloc (.cells #[.int .i64 a0, .int .i64 a1, .int .i64 a2, .int .i64 a3, .int .i64 a4, .string a5, .bool a6, .int .i64 a7, .slice A8 l8.length c8, .slice A9 l9.length c9, .slice A10 l10.length c10, .slice A11 l11.length c11, .slice A12 l12.length c12, .slice A13 l13.length c13, .slice A14 l14.length c14, .slice A15 l15.length c15, .slice A16 l16.length c16] 29 (0, 0)) = w0 at HK HB ⊢
  generalize hB : w.heap.size = B at HK ⊢
  refine (lists_ a0 a1 a2 a3 a4 a5 a6 a7 A8 c8 l8 A9 c9 l9 A10 c10 l10 A11 c11 l11 A12 c12 l12 A13 c13 l13 A14 c14 l14 A15 c15 l15 A16 c16 l16 w0).mono ?_
  rintro e w1 ⟨rfl, hb⟩
  replace HK := Aside0.mk (blk_below HK.out hb)
  replace HB := Aside0.mk (below_then HB.out HB.out.size hb)
  clear hb
  have k11 : ∀ ob, (w1.alloc ob).cell? ⟨B, 11, none⟩ = some (.slice A11 l11.length c11) := fun ob => pw_cell_below (below_alloc (Below.refl _ _) ob) ((blk_cell HK.out 11).trans rfl)
  have HA0 : (w1.alloc (.cells #[.slice A8 l8.length c8, .slice A9 l9.length c9, .slice A10 l10.length c10, .slice A12 l12.length c12, .slice A13 l13.length c13, .slice A14 l14.length c14, .slice A15 l15.length c15, .slice A16 l16.length c16] 126 (0, 0))).heap[w1.heap.size]? = some (.cells #[.slice A8 l8.length c8, .slice A9 l9.length c9, .slice A10 l10.length c10, .slice A12 l12.length c12, .slice A13 l13.length c13, .slice A14 l14.length c14, .slice A15 l15.length c15, .slice A16 l16.length c16] 126 (0, 0)) := blk_new w1 _
  have HA := Aside0.mk HA0
  clear HA0
  replace HB := Aside0.mk (below_alloc HB.out (.cells #[.slice A8 l8.length c8, .slice A9 l9.length c9, .slice A10 l10.length c10, .slice A12 l12.length c12, .slice A13 l13.length c13, .slice A14 l14.length c14, .slice A15 l15.length c15, .slice A16 l16.length c16] 126 (0, 0)))
  clear HK
  go_wp2_with fail
  generalize w1.alloc (.cells #[.slice A8 l8.length c8, .slice A9 l9.length c9, .slice A10 l10.length c10, .slice A12 l12.length c12, .slice A13 l13.length c13, .slice A14 l14.length c14, .slice A15 l15.length c15, .slice A16 l16.length c16] 126 (0, 0)) = w2 at HA HB ⊢
  generalize w1.heap.size = g at HA ⊢
  go_loopg [4, 11] 8 (fun kq vn vi w' => ∃ (i : Nat) (n x : Int), vn = .int .i64 n ∧ vi = .int .i64 x ∧ Aside0 (n = f i) ∧ Aside0 (x = (i : Int)) ∧ Aside0 (i + kq = 8) ∧ Aside0 (w'.heap[g]? = some (.cells #[.slice A8 l8.length c8, .slice A9 l9.length c9, .slice A10 l10.length c10, .slice A12 l12.length c12, .slice A13 l13.length c13, .slice A14 l14.length c14, .slice A15 l15.length c15, .slice A16 l16.length c16] 126 (0, 0))) ∧ Aside0 (Below w.heap.size w w'))
  case atStart => exact ⟨0, _, 0, rfl, rfl, ⟨HF.out.symm⟩, ⟨rfl⟩, ⟨rfl⟩, HA, HB⟩
  case round =>
    clear HA HB k11
    obtain ⟨i, n, x, rfl, rfl, HN, HX, HI, HA, HB⟩ := hrel
    cases gk with
    | zero =>
      obtain rfl : i = 8 := by have := HI.out; omega
      obtain rfl : x = 8 := HX.out
      go_wp2_with fail
      go_ret
      exact ⟨by rw [← HN.out]; rfl, hB ▸ HB.out⟩
    | succ k1 =>
      have hi : i = 0 ∨ i = 1 ∨ i = 2 ∨ i = 3 ∨ i = 4 ∨ i = 5 ∨ i = 6 ∨ i = 7 := by have := HI.out; omega
      rcases hi with rfl | rfl | rfl | rfl | rfl | rfl | rfl | rfl
      · obtain rfl : x = 0 := HX.out
        have kk : wr.cell? ⟨g, 0, none⟩ = some (.slice A8 l8.length c8) := (blk_cell HA.out 0).trans rfl
        go_wp2_with fail
        go_roundg k1
        case measure => omega
        case rel => exact ⟨1, _, _, rfl, rfl, ⟨by rw [HN.out]; exact HF0.out.symm⟩, ⟨rfl⟩, ⟨by have := HI.out; omega⟩, HA, HB⟩
      · obtain rfl : x = 1 := HX.out
        have kk : wr.cell? ⟨g, 1, none⟩ = some (.slice A9 l9.length c9) := (blk_cell HA.out 1).trans rfl
        go_wp2_with fail
        go_roundg k1
        case measure => omega
        case rel => exact ⟨2, _, _, rfl, rfl, ⟨by rw [HN.out]; exact HF1.out.symm⟩, ⟨rfl⟩, ⟨by have := HI.out; omega⟩, HA, HB⟩
      · obtain rfl : x = 2 := HX.out
        have kk : wr.cell? ⟨g, 2, none⟩ = some (.slice A10 l10.length c10) := (blk_cell HA.out 2).trans rfl
        go_wp2_with fail
        go_roundg k1
        case measure => omega
        case rel => exact ⟨3, _, _, rfl, rfl, ⟨by rw [HN.out]; exact HF2.out.symm⟩, ⟨rfl⟩, ⟨by have := HI.out; omega⟩, HA, HB⟩
      · obtain rfl : x = 3 := HX.out
        have kk : wr.cell? ⟨g, 3, none⟩ = some (.slice A12 l12.length c12) := (blk_cell HA.out 3).trans rfl
        go_wp2_with fail
        go_roundg k1
        case measure => omega
        case rel => exact ⟨4, _, _, rfl, rfl, ⟨by rw [HN.out]; exact HF3.out.symm⟩, ⟨rfl⟩, ⟨by have := HI.out; omega⟩, HA, HB⟩
      · obtain rfl : x = 4 := HX.out
        have kk : wr.cell? ⟨g, 4, none⟩ = some (.slice A13 l13.length c13) := (blk_cell HA.out 4).trans rfl
        go_wp2_with fail
        go_roundg k1
        case measure => omega
        case rel => exact ⟨5, _, _, rfl, rfl, ⟨by rw [HN.out]; exact HF4.out.symm⟩, ⟨rfl⟩, ⟨by have := HI.out; omega⟩, HA, HB⟩
      · obtain rfl : x = 5 := HX.out
        have kk : wr.cell? ⟨g, 5, none⟩ = some (.slice A14 l14.length c14) := (blk_cell HA.out 5).trans rfl
        go_wp2_with fail
        go_roundg k1
        case measure => omega
        case rel => exact ⟨6, _, _, rfl, rfl, ⟨by rw [HN.out]; exact HF5.out.symm⟩, ⟨rfl⟩, ⟨by have := HI.out; omega⟩, HA, HB⟩
      · obtain rfl : x = 6 := HX.out
        have kk : wr.cell? ⟨g, 6, none⟩ = some (.slice A15 l15.length c15) := (blk_cell HA.out 6).trans rfl
        go_wp2_with fail
        go_roundg k1
        case measure => omega
        case rel => exact ⟨7, _, _, rfl, rfl, ⟨by rw [HN.out]; exact HF6.out.symm⟩, ⟨rfl⟩, ⟨by have := HI.out; omega⟩, HA, HB⟩
      · obtain rfl : x = 7 := HX.out
        have kk : wr.cell? ⟨g, 7, none⟩ = some (.slice A16 l16.length c16) := (blk_cell HA.out 7).trans rfl
        go_wp2_with fail
        go_roundg k1
        case measure => omega
        case rel => exact ⟨8, _, _, rfl, rfl, ⟨by rw [HN.out]; exact HF7.out.symm⟩, ⟨rfl⟩, ⟨by have := HI.out; omega⟩, HA, HB⟩
end Go.Proofs.Ytddoidcbpcmlaaa.RefL
/- trystlaw13.Few told. (Written by gen_reffew.py.) -/
namespace Go.Proofs.Ytddoidcbpcmlaaa.RefW
open Go.RowKit Go.Proofs.YtddoidcbpcmlaaaW.PrintWords Go.Proofs.YtddoidcbpcmlaaaW.PrintLast Go.Proofs.YtddoidcbpcmlaaaW.PrintMore Go.Proofs.Ytddoidcbpcmlaaa.M
set_option linter.unusedVariables false
set_option linter.unusedSimpArgs false
/-- The numbers of the first so many lists, and the days. -/
def fs (d : Nat) (g : Nat → Nat) : Nat → Int
  | 0 => (d : Int)
  | q + 1 => wrap64 (fs d g q + (g q : Int))
theorem fs_step (d : Nat) (g : Nat → Nat) (q n : Nat) (h : g q = n) : fs d g (q + 1) = wrap64 (fs d g q + (n : Int)) := by rw [fs, h]
def ln (l8 l9 l10 l12 l13 l14 l15 l16 : Nat) : Nat → Nat
  | 0 => l8
  | 1 => l9
  | 2 => l10
  | 3 => l12
  | 4 => l13
  | 5 => l14
  | 6 => l15
  | _ => l16
def few (d l8 l9 l10 l12 l13 l14 l15 l16 : Nat) : Bool := decide (fs d (ln l8 l9 l10 l12 l13 l14 l15 l16) 8 ≤ 500)
theorem few_ (a0 : Int) (a1 : Int) (a2 : Int) (a3 : Int) (a4 : Int) (a5 : ByteArray) (a6 : Bool) (a7 : Int) (A8 : Option Addr) (c8 : Nat) (l8 : List Int) (A9 : Option Addr) (c9 : Nat) (l9 : List Int) (A10 : Option Addr) (c10 : Nat) (l10 : List Int) (A11 : Option Addr) (c11 : Nat) (l11 : List S139) (A12 : Option Addr) (c12 : Nat) (l12 : List Int) (A13 : Option Addr) (c13 : Nat) (l13 : List Int) (A14 : Option Addr) (c14 : Nat) (l14 : List Int) (A15 : Option Addr) (c15 : Nat) (l15 : List Int) (A16 : Option Addr) (c16 : Nat) (l16 : List Int) (w : World) :
    Calls Try.prog 49 #[.agg #[.int .i64 a0, .int .i64 a1, .int .i64 a2, .int .i64 a3, .int .i64 a4, .string a5, .bool a6, .int .i64 a7, .slice A8 l8.length c8, .slice A9 l9.length c9, .slice A10 l10.length c10, .slice A11 l11.length c11, .slice A12 l12.length c12, .slice A13 l13.length c13, .slice A14 l14.length c14, .slice A15 l15.length c15, .slice A16 l16.length c16]] w fun e w' => e = .returned (.bool (few l11.length l8.length l9.length l10.length l12.length l13.length l14.length l15.length l16.length)) ∧ Below w.heap.size w w' :=
  RefL.few0 a0 a1 a2 a3 a4 a5 a6 a7 A8 c8 l8 A9 c9 l9 A10 c10 l10 A11 c11 l11 A12 c12 l12 A13 c13 l13 A14 c14 l14 A15 c15 l15 A16 c16 l16 (fs l11.length (ln l8.length l9.length l10.length l12.length l13.length l14.length l15.length l16.length)) (by rw [fs]) (fs_step _ _ 0 _ rfl) (fs_step _ _ 1 _ rfl) (fs_step _ _ 2 _ rfl) (fs_step _ _ 3 _ rfl) (fs_step _ _ 4 _ rfl) (fs_step _ _ 5 _ rfl) (fs_step _ _ 6 _ rfl) (fs_step _ _ 7 _ rfl) w
end Go.Proofs.Ytddoidcbpcmlaaa.RefW
