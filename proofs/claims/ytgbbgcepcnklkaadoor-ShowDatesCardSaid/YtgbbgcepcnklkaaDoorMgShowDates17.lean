/- Texts of this claim, merged: ShowTx, ShowNm, PureShowDates. -/
import Derived.Test.YtgbbgcepcnklkaaDoorMgShowDates15
import Derived.Test.YtgbbgcepcnklkaaDoorMgShowDates16
import Derived.Test.YtgbbgcepcnklkaaDoorMgShowDates14
import Derived.Lib.LaidTab
import Derived.Test.YtgbbgcepcnklkaaDoorMgShowDates12
/- show.Text and the reference's Text: one text. -/
namespace Go.Proofs.YtgbbgcepcnklkaaDoor.ShowTx
open Go.RowKit Go.Proofs.YtgbbgcepcnklkaaDoorW.PrintWords Go.Proofs.YtgbbgcepcnklkaaDoorW.PrintLast Go.Proofs.YtgbbgcepcnklkaaDoor.Q Go.Proofs.YtgbbgcepcnklkaaDoor.ShowAw
set_option linter.unusedVariables false
set_option linter.unusedSimpArgs false
def it (n : Int) : ByteArray := ⟨(Lib.itoa n).toArray⟩
/-- The text of a date. -/
def tx (c y m d : Int) : ByteArray := if c = 2 then it y ++ ⟨#[45, 87]⟩ ++ it m ++ ⟨#[45]⟩ ++ it d else it y ++ ⟨#[45]⟩ ++ it m ++ ⟨#[45]⟩ ++ it d
theorem dlen : ∀ (j u : Nat), u < 10 ^ (j + 1) → (Lib.decDigits u).length ≤ j + 1 := by
 intro j
 induction j with
 | zero => intro u hu; rw [Lib.decDigits_one (by simpa using hu)]; simp
 | succ j ih =>
  intro u hu
  rw [Lib.decDigits.eq_1]
  split
  ·simp
  ·have hp : (10 : Nat) ^ (j + 1 + 1) = 10 ^ (j + 1) * 10 := rfl
   have := ih (u / 10) (by rw [hp] at hu; omega)
   simp; omega
theorem it_size (n : Int) (h : -20000 ≤ n) (h' : n ≤ 20000) : (it n).size ≤ 100 := by
 have p : (10 : Nat) ^ (6 + 1) = 10000000 := rfl
 unfold it
 rw [FunT.size_of]
 unfold Lib.itoa
 split
 ·have := dlen 6 n.natAbs (by omega); simp; omega
 ·have := dlen 6 n.toNat (by omega); omega
theorem s1_ (a : UInt8) : ByteArray.size ⟨#[a]⟩ = 1 := rfl
theorem s2_ (a b : UInt8) : ByteArray.size ⟨#[a, b]⟩ = 2 := rfl
theorem refYes (c a y m d : Int) (h : trystref01_Date.f FunZ.K c a = some (y, m, d, 0)) (y1 : -20000 ≤ y) (y2 : y ≤ 20000) (hm : 1 ≤ m ∧ m ≤ 60 ∧ 1 ≤ d ∧ d ≤ 60) : trystref01_Text.f FunZ.K c a = some (tx c y m d) := by
 have zy := it_size y y1 y2
 have zm := it_size m (by omega) (by omega)
 have zd := it_size d (by omega) (by omega)
 have ny : trystref01_number.f FunZ.K y 0 = some (it y) := FunT.number FunZ.K (by decide) y (by omega) (by omega)
 have nm : trystref01_number.f FunZ.K m 0 = some (it m) := FunT.number FunZ.K (by decide) m (by omega) (by omega)
 have nd : trystref01_number.f FunZ.K d 0 = some (it d) := FunT.number FunZ.K (by decide) d (by omega) (by omega)
 unfold trystref01_Text.f tx
 rw [h, Option.bind_some]
 dsimp only
 rw [if_pos rfl, ny, nm, nd]
 simp only [Option.bind_some]
 by_cases q : c = 2
 ·rw [if_pos q, if_pos q, if_pos (by omega), if_pos (by simp only [ByteArray.size_append, s2_]; omega), if_pos (by simp only [ByteArray.size_append, s2_]; omega), if_pos (by simp only [ByteArray.size_append, s2_, s1_]; omega)]
 ·rw [if_neg q, if_neg q, if_pos (by omega), if_pos (by simp only [ByteArray.size_append, s1_]; omega), if_pos (by simp only [ByteArray.size_append, s1_]; omega), if_pos (by simp only [ByteArray.size_append, s1_]; omega)]
theorem refNo (c a y m d : Int) (h : trystref01_Date.f FunZ.K c a = some (y, m, d, 2)) : trystref01_Text.f FunZ.K c a = some ⟨#[]⟩ := by
 unfold trystref01_Text.f
 rw [h, Option.bind_some]
 dsimp only
 rw [if_neg (by omega)]
theorem written (c y m d : Int) (w : World) (ht : Tab w) (y1 : -20000 ≤ y) (y2 : y ≤ 20000) (hm : 1 ≤ m ∧ m ≤ 60 ∧ 1 ≤ d ∧ d ≤ 60) :
  Calls Tryd.prog 25 #[.int .i64 c, .agg #[.int .i64 y, .int .i64 m, .int .i64 d]] w fun e w' => e = .returned (.string (tx c y m d)) ∧ Below w.heap.size w w' := by
 unfold tx
 by_cases q : c = 2
 ·rw [if_pos q]
  exact ShowDt.written2 c y m d w ht q y1 y2 hm.1 hm.2.1 hm.2.2.1 hm.2.2.2 it_size
 ·rw [if_neg q]
  exact ShowDt.written0 c y m d w ht q y1 y2 hm.1 hm.2.1 hm.2.2.1 hm.2.2.2 it_size
set_option maxHeartbeats 4000000 in
set_option maxRecDepth 100000 in
theorem textYes (c a y m d : Int) (s : ByteArray) (w : World) (ht : Tab w) (hD : ∀ w : World, Calls Tryd.prog 7 #[.int .i64 c, .int .i64 a] w fun e w' => e = .returned (.tuple #[.agg #[.int .i64 y, .int .i64 m, .int .i64 d], .int .i64 0]) ∧ Below w.heap.size w w')
  (hW : ∀ w : World, Tab w → Calls Tryd.prog 25 #[.int .i64 c, .agg #[.int .i64 y, .int .i64 m, .int .i64 d]] w fun e w' => e = .returned (.string s) ∧ Below w.heap.size w w') :
  Calls Tryd.prog 8 #[.int .i64 c, .int .i64 a] w fun e w' => e = .returned (.tuple #[.string s, .int .i64 0]) ∧ Below w.heap.size w w' := by
 have T := Lib.hid ht
 have HD := Lib.hid hD
 have HW := Lib.hid hW
 clear ht hD hW
 go_enter Tryd.func8, Tryd.ntmps8
 go_wp2_with fail
 refine (HD.out _).mono ?_
 rintro e w1 ⟨rfl, hB⟩
 have B := Lib.hid hB
 clear hB
 go_wp2_with fail
 refine (HW.out _ (tab_below T.out (by repeat (with_reducible first | exact B.out | apply pw_below_drewN | apply below_drew | apply below_alloc | refine below_set ?_ (by have := B.out.size; simp; omega))))).mono ?_
 rintro e w2 ⟨rfl, hB⟩
 have B2 : Below w.heap.size w w2 := below_then (by repeat (with_reducible first | exact B.out | apply pw_below_drewN | apply below_drew | apply below_alloc | refine below_set ?_ (by have := B.out.size; simp; omega))) (by have := B.out.size; simp; omega) hB
 clear hB
 go_wp2_with fail
 go_ret2
 exact ⟨rfl, B2⟩
set_option maxHeartbeats 4000000 in
set_option maxRecDepth 100000 in
theorem textNo (c a y m d e0 : Int) (w : World) (h0 : e0 ≠ 0) (hD : ∀ w : World, Calls Tryd.prog 7 #[.int .i64 c, .int .i64 a] w fun e w' => e = .returned (.tuple #[.agg #[.int .i64 y, .int .i64 m, .int .i64 d], .int .i64 e0]) ∧ Below w.heap.size w w') :
  Calls Tryd.prog 8 #[.int .i64 c, .int .i64 a] w fun e w' => e = .returned (.tuple #[.string ⟨#[]⟩, .int .i64 e0]) ∧ Below w.heap.size w w' := by
 have HD := Lib.hid hD
 have z : (e0 == 0) = false := beq_eq_false_iff_ne.2 h0
 clear hD h0
 go_enter Tryd.func8, Tryd.ntmps8
 go_wp2_with fail
 refine (HD.out _).mono ?_
 rintro e w1 ⟨rfl, hB⟩
 have B := Lib.hid hB
 clear hB
 go_wp2_with fail
 go_ret2
 exact ⟨rfl, by repeat (with_reducible first | exact B.out | apply pw_below_drewN | apply below_drew | apply below_alloc | refine below_set ?_ (by have := B.out.size; simp; omega))⟩
set_option maxHeartbeats 4000000 in
set_option maxRecDepth 100000 in
/-- No calendar, no date. -/
theorem dateOut (c a : Int) (w : World) (hc : ¬ (0 ≤ c ∧ c ≤ 6)) :
  Calls Tryd.prog 7 #[.int .i64 c, .int .i64 a] w fun e w' => e = .returned (.tuple #[.agg #[.int .i64 0, .int .i64 0, .int .i64 0], .int .i64 1]) ∧ Below w.heap.size w w' := by
 have hf : show_is.f c = some false := by
  unfold show_is.f
  by_cases a : c ≥ 0
  ·rw [if_pos a]; simp; omega
  ·rw [if_neg a]
 clear hc
 go_enter Tryd.func7, Tryd.ntmps7
 go_wp2_with fail
 refine (show_is.calls c false _ hf).mono ?_
 rintro e w1 ⟨rfl, ⟨nd, rfl⟩⟩
 have hk : ((w.alloc (.cells #[.int .i64 0, .int .i64 0, .int .i64 0] 24 (0, 0))).drewN nd).heap[w.heap.size]? = some (.cells #[.int .i64 0, .int .i64 0, .int .i64 0] 24 (0, 0)) := blk_drewN (blk_new w _) nd
 have c0 := (blk_cell hk 0).trans rfl
 have c1 := (blk_cell hk 1).trans rfl
 have c2 := (blk_cell hk 2).trans rfl
 have f0 := blk_frozen hk 0; have f1 := blk_frozen hk 1; have f2 := blk_frozen hk 2
 go_wp2_with fail
 refine bodyPost_ret (v := .tuple #[.agg #[.int .i64 0, .int .i64 0, .int .i64 0], .int .i64 1]) (by simp [results, Tryd.results7, go_sem, c0, c1, c2, f0, f1, f2]) rfl ⟨rfl, ?_⟩
 repeat (with_reducible first | exact Below.refl _ _ | apply pw_below_drewN | apply below_drew | apply below_alloc | refine below_set ?_ (by simp; done))
end Go.Proofs.YtgbbgcepcnklkaaDoor.ShowTx
/- show.Name, walked; what the table of names reads as is a premise. -/
namespace Go.Proofs.YtgbbgcepcnklkaaDoor.ShowNm
open Go.RowKit Go.Proofs.YtgbbgcepcnklkaaDoorW.PrintWords Go.Proofs.YtgbbgcepcnklkaaDoorW.PrintLast Go.Proofs.YtgbbgcepcnklkaaDoor.Q
set_option linter.unusedVariables false
set_option linter.unusedSimpArgs false
def nm (c : Int) : ByteArray := if c = 0 then ⟨#[71, 114, 101, 103, 111, 114, 105, 97, 110]⟩ else if c = 1 then ⟨#[74, 117, 108, 105, 97, 110]⟩ else if c = 2 then ⟨#[73, 83, 79]⟩ else if c = 3 then ⟨#[72, 101, 98, 114, 101, 119]⟩ else if c = 4 then ⟨#[73, 115, 108, 97, 109, 105, 99]⟩ else if c = 5 then ⟨#[80, 101, 114, 115, 105, 97, 110]⟩ else if c = 6 then ⟨#[67, 111, 112, 116, 105, 99]⟩ else ⟨#[]⟩
def nms : Array Value := #[.string ⟨#[71, 114, 101, 103, 111, 114, 105, 97, 110]⟩, .string ⟨#[74, 117, 108, 105, 97, 110]⟩, .string ⟨#[73, 83, 79]⟩, .string ⟨#[72, 101, 98, 114, 101, 119]⟩, .string ⟨#[73, 115, 108, 97, 109, 105, 99]⟩, .string ⟨#[80, 101, 114, 115, 105, 97, 110]⟩, .string ⟨#[67, 111, 112, 116, 105, 99]⟩]
def Nms (w : World) : Prop := w.var? Tryd.prog "tryst/show.names" = some nms
theorem nms_below {w w' : World} (h : Nms w) (hb : Below w.heap.size w w') : Nms w' := by
 unfold Nms World.var? at h ⊢
 cases hg : Program.globalNamed Tryd.prog "tryst/show.names" with
 | none => rw [hg] at h; cases h
 | some g =>
  rw [hg] at h
  simp only [Option.bind_some] at h ⊢
  have hlt : g < w.heap.size := by
   rcases Nat.lt_or_ge g w.heap.size with q | q
   ·exact q
   ·rw [Array.getElem?_eq_none q] at h; cases h
  rw [hb.block g hlt]
  exact h
theorem nms_cell {w : World} (h : Nms w) (i : Nat) : w.cell? ⟨0, i, none⟩ = nms[i]? := by
 unfold Nms World.var? at h
 have hg : Program.globalNamed Tryd.prog "tryst/show.names" = some 0 := by kernel_rfl
 rw [hg] at h
 simp only [Option.bind_some] at h
 cases hh : w.heap[0]? with
 | none => rw [hh] at h; cases h
 | some o =>
  rw [hh] at h
  cases o with
  | cells cs t fr =>
   simp only [Option.some.injEq] at h
   subst h
   exact cell_of_row w _ i _ t fr hh
  | _ => cases h
theorem cells_of_strs {H : Type} {enc : TypeId × Value → H} {P : Program} {w : World} {base : Nat} {sp : Nat → Bool} {held : Bool} {fuel : Nat} {t e : TypeId} {n : Nat} {cs : List Value} {zs : List (List UInt8)} {p : List MemPlace}
  (ht : P.underlying t = some (.array n e)) (he : P.underlying e = some .string) (hce : P.cellsOf e = 1) (hct : P.cellsOf t = n)
  (h : DataW.trod enc P w base sp held fuel t cs = some (.agg (zs.map fun z => .lit (.string z)), p)) : cs = zs.map fun z => Value.string ⟨z.toArray⟩ := by
 cases fuel with
 | zero => simp [DataW.trod] at h
 | succ fuel =>
  simp only [DataW.trod, ht, hce, hct, Nat.mul_one] at h
  split at h
  ·rename_i hl
   obtain ⟨xs, hm, hx⟩ := Option.map_eq_some_iff.1 h
   have hxs : xs.map (·.1) = zs.map fun z => (DataW.lit (.string z) : DataW H) := by
    have := congrArg Prod.fst hx
    simpa using this
   have hxl : xs.length = n := by simpa using Lib.mapM_length hm
   have hzl : zs.length = n := by
    have := congrArg List.length hxs
    simp at this
    omega
   apply List.ext_getElem?
   intro i
   by_cases hi : i < n
   ·obtain ⟨b, hb, hf⟩ := Lib.mapM_at hm i i (by simp [hi])
    obtain ⟨z, hc, rfl, _⟩ := DataW.trod_string he hf
    have h1 : cs[i]? = some (.string z) := by
     have := congrArg (·[0]?) hc
     simpa [List.getElem?_take, List.getElem?_drop] using this
    have h2 : (xs.map (·.1))[i]? = some (DataW.lit (.string z.data.toList) : DataW H) := by simp [hb]
    rw [hxs] at h2
    simp only [List.getElem?_map, Option.map_eq_some_iff, DataW.lit.injEq, Lit.string.injEq] at h2
    obtain ⟨z', hz', hzz⟩ := h2
    subst hzz
    simp [h1, hz']
   ·rw [List.getElem?_eq_none (by omega), List.getElem?_eq_none (by simp; omega)]
  ·cases h
abbrev strs : List (List UInt8) := [[71, 114, 101, 103, 111, 114, 105, 97, 110], [74, 117, 108, 105, 97, 110], [73, 83, 79], [72, 101, 98, 114, 101, 119], [73, 115, 108, 97, 109, 105, 99], [80, 101, 114, 115, 105, 97, 110], [67, 111, 112, 116, 105, 99]]

set_option maxHeartbeats 4000000 in
theorem walk0 (w : World) (hn : Nms w) : Calls Tryd.prog 9 #[.int .i64 0] w fun e w' => e = .returned (.string (nm 0)) ∧ Below w.heap.size w w' := by
 have c0 : w.cell? ⟨0, 0, none⟩ = some (.string ⟨#[71, 114, 101, 103, 111, 114, 105, 97, 110]⟩) := nms_cell hn 0
 have e0 : nm 0 = ⟨#[71, 114, 101, 103, 111, 114, 105, 97, 110]⟩ := by decide
 rw [e0]
 clear hn e0
 go_enter Tryd.func9, Tryd.ntmps9
 go_wp2_with fail
 refine (show_is.calls 0 true _ (by decide)).mono ?_
 rintro e w1 ⟨rfl, ⟨nd, rfl⟩⟩
 go_wp2_with fail
 go_ret
 exact ⟨rfl, by repeat (with_reducible first | exact Below.refl _ _ | apply below_drew | apply pw_below_drewN)⟩

set_option maxHeartbeats 4000000 in
theorem walk1 (w : World) (hn : Nms w) : Calls Tryd.prog 9 #[.int .i64 1] w fun e w' => e = .returned (.string (nm 1)) ∧ Below w.heap.size w w' := by
 have c0 : w.cell? ⟨0, 1, none⟩ = some (.string ⟨#[74, 117, 108, 105, 97, 110]⟩) := nms_cell hn 1
 have e0 : nm 1 = ⟨#[74, 117, 108, 105, 97, 110]⟩ := by decide
 rw [e0]
 clear hn e0
 go_enter Tryd.func9, Tryd.ntmps9
 go_wp2_with fail
 refine (show_is.calls 1 true _ (by decide)).mono ?_
 rintro e w1 ⟨rfl, ⟨nd, rfl⟩⟩
 go_wp2_with fail
 go_ret
 exact ⟨rfl, by repeat (with_reducible first | exact Below.refl _ _ | apply below_drew | apply pw_below_drewN)⟩

set_option maxHeartbeats 4000000 in
theorem walk2 (w : World) (hn : Nms w) : Calls Tryd.prog 9 #[.int .i64 2] w fun e w' => e = .returned (.string (nm 2)) ∧ Below w.heap.size w w' := by
 have c0 : w.cell? ⟨0, 2, none⟩ = some (.string ⟨#[73, 83, 79]⟩) := nms_cell hn 2
 have e0 : nm 2 = ⟨#[73, 83, 79]⟩ := by decide
 rw [e0]
 clear hn e0
 go_enter Tryd.func9, Tryd.ntmps9
 go_wp2_with fail
 refine (show_is.calls 2 true _ (by decide)).mono ?_
 rintro e w1 ⟨rfl, ⟨nd, rfl⟩⟩
 go_wp2_with fail
 go_ret
 exact ⟨rfl, by repeat (with_reducible first | exact Below.refl _ _ | apply below_drew | apply pw_below_drewN)⟩

set_option maxHeartbeats 4000000 in
theorem walk3 (w : World) (hn : Nms w) : Calls Tryd.prog 9 #[.int .i64 3] w fun e w' => e = .returned (.string (nm 3)) ∧ Below w.heap.size w w' := by
 have c0 : w.cell? ⟨0, 3, none⟩ = some (.string ⟨#[72, 101, 98, 114, 101, 119]⟩) := nms_cell hn 3
 have e0 : nm 3 = ⟨#[72, 101, 98, 114, 101, 119]⟩ := by decide
 rw [e0]
 clear hn e0
 go_enter Tryd.func9, Tryd.ntmps9
 go_wp2_with fail
 refine (show_is.calls 3 true _ (by decide)).mono ?_
 rintro e w1 ⟨rfl, ⟨nd, rfl⟩⟩
 go_wp2_with fail
 go_ret
 exact ⟨rfl, by repeat (with_reducible first | exact Below.refl _ _ | apply below_drew | apply pw_below_drewN)⟩

set_option maxHeartbeats 4000000 in
theorem walk4 (w : World) (hn : Nms w) : Calls Tryd.prog 9 #[.int .i64 4] w fun e w' => e = .returned (.string (nm 4)) ∧ Below w.heap.size w w' := by
 have c0 : w.cell? ⟨0, 4, none⟩ = some (.string ⟨#[73, 115, 108, 97, 109, 105, 99]⟩) := nms_cell hn 4
 have e0 : nm 4 = ⟨#[73, 115, 108, 97, 109, 105, 99]⟩ := by decide
 rw [e0]
 clear hn e0
 go_enter Tryd.func9, Tryd.ntmps9
 go_wp2_with fail
 refine (show_is.calls 4 true _ (by decide)).mono ?_
 rintro e w1 ⟨rfl, ⟨nd, rfl⟩⟩
 go_wp2_with fail
 go_ret
 exact ⟨rfl, by repeat (with_reducible first | exact Below.refl _ _ | apply below_drew | apply pw_below_drewN)⟩

set_option maxHeartbeats 4000000 in
theorem walk5 (w : World) (hn : Nms w) : Calls Tryd.prog 9 #[.int .i64 5] w fun e w' => e = .returned (.string (nm 5)) ∧ Below w.heap.size w w' := by
 have c0 : w.cell? ⟨0, 5, none⟩ = some (.string ⟨#[80, 101, 114, 115, 105, 97, 110]⟩) := nms_cell hn 5
 have e0 : nm 5 = ⟨#[80, 101, 114, 115, 105, 97, 110]⟩ := by decide
 rw [e0]
 clear hn e0
 go_enter Tryd.func9, Tryd.ntmps9
 go_wp2_with fail
 refine (show_is.calls 5 true _ (by decide)).mono ?_
 rintro e w1 ⟨rfl, ⟨nd, rfl⟩⟩
 go_wp2_with fail
 go_ret
 exact ⟨rfl, by repeat (with_reducible first | exact Below.refl _ _ | apply below_drew | apply pw_below_drewN)⟩

set_option maxHeartbeats 4000000 in
theorem walk6 (w : World) (hn : Nms w) : Calls Tryd.prog 9 #[.int .i64 6] w fun e w' => e = .returned (.string (nm 6)) ∧ Below w.heap.size w w' := by
 have c0 : w.cell? ⟨0, 6, none⟩ = some (.string ⟨#[67, 111, 112, 116, 105, 99]⟩) := nms_cell hn 6
 have e0 : nm 6 = ⟨#[67, 111, 112, 116, 105, 99]⟩ := by decide
 rw [e0]
 clear hn e0
 go_enter Tryd.func9, Tryd.ntmps9
 go_wp2_with fail
 refine (show_is.calls 6 true _ (by decide)).mono ?_
 rintro e w1 ⟨rfl, ⟨nd, rfl⟩⟩
 go_wp2_with fail
 go_ret
 exact ⟨rfl, by repeat (with_reducible first | exact Below.refl _ _ | apply below_drew | apply pw_below_drewN)⟩

theorem name (c : Int) (w : World) (hn : Nms w) (hc : 0 ≤ c) (hc' : c ≤ 6) : Calls Tryd.prog 9 #[.int .i64 c] w fun e w' => e = .returned (.string (nm c)) ∧ Below w.heap.size w w' := by
 rcases (by omega : c = 0 ∨ c = 1 ∨ c = 2 ∨ c = 3 ∨ c = 4 ∨ c = 5 ∨ c = 6) with rfl | rfl | rfl | rfl | rfl | rfl | rfl
 ·exact walk0 w hn
 ·exact walk1 w hn
 ·exact walk2 w hn
 ·exact walk3 w hn
 ·exact walk4 w hn
 ·exact walk5 w hn
 ·exact walk6 w hn
set_option maxHeartbeats 4000000 in
theorem none_ (c : Int) (w : World) (hc : ¬ (0 ≤ c ∧ c ≤ 6)) : Calls Tryd.prog 9 #[.int .i64 c] w fun e w' => e = .returned (.string ⟨#[]⟩) ∧ Below w.heap.size w w' := by
 have hf : show_is.f c = some false := by
  unfold show_is.f
  by_cases a : c ≥ 0
  ·rw [if_pos a]; simp; omega
  ·rw [if_neg a]
 clear hc
 go_enter Tryd.func9, Tryd.ntmps9
 go_wp2_with fail
 refine (show_is.calls c false _ hf).mono ?_
 rintro e w1 ⟨rfl, ⟨nd, rfl⟩⟩
 go_wp2_with fail
 go_ret
 exact ⟨rfl, by repeat (with_reducible first | exact Below.refl _ _ | apply below_drew | apply pw_below_drewN)⟩
end Go.Proofs.YtgbbgcepcnklkaaDoor.ShowNm
/- Any day, in any calendar, has the date and the text that the document says, or none. (Written by gen_showdates.py.) -/
namespace Go.Proofs.YtgbbgcepcnklkaaDoor.Pure
open Go.RowKit Go.Proofs.YtgbbgcepcnklkaaDoorW.PrintWords Go.Proofs.YtgbbgcepcnklkaaDoorW.PrintLast Go.Proofs.YtgbbgcepcnklkaaDoor.Q
set_option linter.unusedVariables false
set_option linter.unusedSimpArgs false
namespace ShowDatesW
theorem kept {w : World} {a : Addr} {v : Value} (o : Obj) (h : w.cell? a = some v) : (w.alloc o).cell? a = some v := pw_cell_below ((Below.refl _ _).alloc (Nat.le_refl _) _) h
def T8 : Bool × List (List Nat × List Nat) := (true, [([], []), ([], []), ([0, 1], [0, 1]), ([2], [2]), ([3], [3]), ([3], [3]), ([4, 5, 3], [3, 4, 5]), ([3, 6], [3, 6]), ([7, 3], [7]), ([8], [8]), ([8], [8]), ([9, 10, 8], [8, 9, 10]), ([8, 11], [8, 11]), ([12, 8], [12]), ([13], [13]), ([13], [13]), ([13], [13]), ([15, 16, 13, 13], [13, 15, 16]), ([14, 17, 13], [13, 14, 17]), ([13, 18], [13, 18]), ([19, 17], [19]), ([20], [20]), ([21, 20, 20], [20, 21]), ([20], [20]), ([20], [20]), ([23, 24, 20], [20, 23, 24]), ([22, 25, 20], [20, 22, 25]), ([20, 26], [20, 26]), ([27, 22, 0, 1, 2, 3, 4, 5, 6, 7, 8, 9, 10, 11, 12, 13, 14, 15, 16, 17, 18, 19, 20, 21, 22, 23, 24, 25, 26, 27], [27])])
def B8 : List Nat := [0, 0, 3, 7, 15, 15, 63, 127, 255, 511, 511, 2047, 4095, 8191, 16383, 16383, 16383, 114687, 262143, 524287, 1048575, 2097151, 4194303, 2097151, 2097151, 27262975, 67108863, 134217727, 268435455]
theorem tab8 : rtab .any (opsOf Tryd.f3 8) = T8 := by kernel_rfl
theorem bits8 : waitsOk T8.2 B8 = true := by kernel_rfl

theorem ixs (c : Int) (h0 : 0 ≤ c) (h6 : c ≤ 6) (w : World) : (Instr.index 32 (.agg #[.string ⟨#[71, 114, 101, 103, 111, 114, 105, 97, 110]⟩, .string ⟨#[74, 117, 108, 105, 97, 110]⟩, .string ⟨#[73, 83, 79]⟩, .string ⟨#[72, 101, 98, 114, 101, 119]⟩, .string ⟨#[73, 115, 108, 97, 109, 105, 99]⟩, .string ⟨#[80, 101, 114, 115, 105, 97, 110]⟩, .string ⟨#[67, 111, 112, 116, 105, 99]⟩]) (.int .i64 c)).run Tryd.prog w = .ok (.string (ShowNm.nm c)) w := by
 rcases (by omega : c = 0 ∨ c = 1 ∨ c = 2 ∨ c = 3 ∨ c = 4 ∨ c = 5 ∨ c = 6) with rfl | rfl | rfl | rfl | rfl | rfl | rfl <;> kernel_rfl
set_option maxHeartbeats 8000000 in
set_option maxRecDepth 100000 in
theorem walk (c a y m d e0 : Int) (s : ByteArray) (w : World) (h0 : 0 ≤ c) (h6 : c ≤ 6) (ht : ShowAw.Tab w) (hn : ShowNm.Nms w)
  (hD : ∀ w : World, Calls Tryd.prog 7 #[.int .i64 c, .int .i64 a] w fun e w' => e = .returned (.tuple #[.agg #[.int .i64 y, .int .i64 m, .int .i64 d], .int .i64 e0]) ∧ Below w.heap.size w w')
  (hT : ∀ w : World, ShowAw.Tab w → Calls Tryd.prog 8 #[.int .i64 c, .int .i64 a] w fun e w' => e = .returned (.tuple #[.string s, .int .i64 e0]) ∧ Below w.heap.size w w')
  (hR : trystref01_Date.f FunZ.K c a = some (y, m, d, e0)) (hX : trystref01_Text.f FunZ.K c a = some s) :
  Calls Tryd.prog 3 #[.int .i64 c, .int .i64 a] w fun e w' => e = .returned (.bool true) ∧ Below w.heap.size w w' := by
 have hix := Lib.hid (ixs c h0 h6)
 have C := Lib.hid (And.intro h0 h6)
 have T := Lib.hid ht
 have NN := Lib.hid hn
 have HD := Lib.hid hD
 have HT := Lib.hid hT
 have HR := Lib.hid hR
 have HX := Lib.hid hX
 have a1 : decide (c < 0) = false := decide_eq_false (by omega)
 have a2 : decide (c > 6) = false := decide_eq_false (by omega)
 have a3 : decide (6 < c) = false := a2
 clear ht hn hD hT hR hX h0 h6
 go_enter Tryd.func3, Tryd.ntmps3
 go_wp2_with fail
 refine (ShowAw.awake _ T.out).mono ?_
 rintro e wA ⟨rfl, hA⟩
 have B := Lib.hid hA
 clear hA
 go_wp2_with fail
 refine (HD.out _).mono ?_
 rintro e w1 ⟨rfl, hB⟩
 replace B := Lib.hid (below_then B.out B.out.size hB)
 clear hB
 go_wp2_with fail
 refine (HT.out _ (ShowAw.tab_below T.out (below_alloc B.out _))).mono ?_
 rintro e w2 ⟨rfl, hB⟩
 have i0 : w2.cell? ⟨w1.heap.size, 0, none⟩ = some (.int .i64 y) := pw_cell_below hB (by go_simp)
 have i1 : w2.cell? ⟨w1.heap.size, 1, none⟩ = some (.int .i64 m) := pw_cell_below hB (by go_simp)
 have i2 : w2.cell? ⟨w1.heap.size, 2, none⟩ = some (.int .i64 d) := pw_cell_below hB (by go_simp)
 replace B := Lib.hid (below_then (below_alloc B.out _) (below_alloc B.out _).size hB)
 clear hB
 go_wp2_with fail
 refine (trystref01_Date.calls FunZ.K c a _ _ _ _ _ HR.out).mono ?_
 rintro e w3 ⟨rfl, hB⟩
 have j0 := pw_cell_below hB i0
 have j1 := pw_cell_below hB i1
 have j2 := pw_cell_below hB i2
 replace B := Lib.hid (below_then B.out B.out.size hB)
 clear hB i0 i1 i2
 go_wp2_with fail
 refine start_ (n := 29) (S := fun w' => w'.cell? ⟨w1.heap.size, 0, none⟩ = some (.int .i64 y) ∧ w'.cell? ⟨w1.heap.size, 1, none⟩ = some (.int .i64 m) ∧ w'.cell? ⟨w1.heap.size, 2, none⟩ = some (.int .i64 d) ∧ w'.cell? ⟨w3.heap.size, 0, none⟩ = some (.int .i64 y) ∧ w'.cell? ⟨w3.heap.size, 1, none⟩ = some (.int .i64 m) ∧ w'.cell? ⟨w3.heap.size, 2, none⟩ = some (.int .i64 d)) (ds := []) #[false, false, false, false, false, false, false, false, false, false, false, false, false, false, false, false, false, false, false, false, false, false, false, false, false, false, false, false, false] (by kernel_rfl) rfl rfl ⟨kept _ j0, kept _ j1, kept _ j2, by go_simp, by go_simp, by go_simp⟩ (fun hHeld => ?_)
 refine with_tabW tab8 bits8 (fun HT_ HW_ => ?_)
 replace B := Lib.hid (show Below w.heap.size w ((w3.alloc (.cells #[.int .i64 y, .int .i64 m, .int .i64 d] 24 (0, 0))).drew) from below_drew (below_alloc B.out _))
 generalize (w3.alloc (.cells #[.int .i64 y, .int .i64 m, .int .i64 d] 24 (0, 0))).drew = w4 at B hHeld ⊢
 clear j0 j1 j2
 refine take_ (i := 0) (N := some 52) (v := ?_) (a' := ?_) #[true, false, false, false, false, false, false, false, false, false, false, false, false, false, false, false, false, false, false, false, false, false, false, false, false, false, false, false, false] rfl rfl (take_ofW HT_.out HW_.out (by kernel_rfl)) (fun _ _ _ h => h) (Or.inl ⟨by rfl, ?_⟩) hHeld ?_ ?_
 rotate_left
 ·rintro w' ⟨s0, s1, s2, s3, s4, s5⟩
  go_simp
  with_reducible rfl
 rotate_left
 ·simp only [Act.put, List.setIfInBounds_toArray, List.set_cons_zero, List.set_cons_succ, i64_w, i32_w]
  rfl
 refine take_ (i := 1) (N := some 53) (v := ?_) (a' := ?_) #[true, true, false, false, false, false, false, false, false, false, false, false, false, false, false, false, false, false, false, false, false, false, false, false, false, false, false, false, false] rfl rfl (take_ofW HT_.out HW_.out (by kernel_rfl)) (fun _ _ _ h => h) (Or.inl ⟨by rfl, ?_⟩) hHeld ?_ ?_
 rotate_left
 ·rintro w' ⟨s0, s1, s2, s3, s4, s5⟩
  go_simp
  with_reducible rfl
 rotate_left
 ·simp only [Act.put, List.setIfInBounds_toArray, List.set_cons_zero, List.set_cons_succ, i64_w, i32_w]
  rfl
 refine pure_ (i := 2) (N := some 54) (v := .bool true) (a' := ?_) #[true, true, true, false, false, false, false, false, false, false, false, false, false, false, false, false, false, false, false, false, false, false, false, false, false, false, false, false, false] rfl rfl (any_of HT_.out (by kernel_rfl)) (fun _ _ _ h => h) (Or.inl ⟨by rfl, ?_⟩) (by simp only [Act.put, List.setIfInBounds_toArray, List.set_cons_zero, List.set_cons_succ, i64_w, i32_w]; rfl) ?_
 ·intro w'
  first | (go_simp; done) | (go_simp; simp; done) | (go_simp; rfl)
 refine pure_ (i := 3) (N := some 55) (v := ?_) (a' := ?_) #[true, true, true, true, false, false, false, false, false, false, false, false, false, false, false, false, false, false, false, false, false, false, false, false, false, false, false, false, false] rfl rfl (any_of HT_.out (by kernel_rfl)) (fun _ _ _ h => h) (Or.inl ⟨by rfl, ?_⟩) ?_ ?_
 rotate_left
 ·intro w'
  go_simp
  with_reducible rfl
 rotate_left
 ·simp only [Act.put, List.setIfInBounds_toArray, List.set_cons_zero, List.set_cons_succ, i64_w, i32_w]
  rfl
 refine pure_ (i := 4) (N := some 56) (v := ?_) (a' := ?_) #[true, true, true, true, true, false, false, false, false, false, false, false, false, false, false, false, false, false, false, false, false, false, false, false, false, false, false, false, false] rfl rfl (any_of HT_.out (by kernel_rfl)) (fun _ _ _ h => h) (Or.inl ⟨by rfl, ?_⟩) ?_ ?_
 rotate_left
 ·intro w'
  go_simp
  with_reducible rfl
 rotate_left
 ·simp only [Act.put, List.setIfInBounds_toArray, List.set_cons_zero, List.set_cons_succ, i64_w, i32_w]
  rfl
 refine pure_ (i := 5) (N := some 57) (v := ?_) (a' := ?_) #[true, true, true, true, true, true, false, false, false, false, false, false, false, false, false, false, false, false, false, false, false, false, false, false, false, false, false, false, false] rfl rfl (any_of HT_.out (by kernel_rfl)) (fun _ _ _ h => h) (Or.inl ⟨by rfl, ?_⟩) ?_ ?_
 rotate_left
 ·intro w'
  go_simp
  with_reducible rfl
 rotate_left
 ·simp only [Act.put, List.setIfInBounds_toArray, List.set_cons_zero, List.set_cons_succ, i64_w, i32_w]
  rfl
 refine pure_ (i := 6) (N := some 58) (v := .bool true) (a' := ?_) #[true, true, true, true, true, true, true, false, false, false, false, false, false, false, false, false, false, false, false, false, false, false, false, false, false, false, false, false, false] rfl rfl (any_of HT_.out (by kernel_rfl)) (fun _ _ _ h => h) (Or.inl ⟨by rfl, ?_⟩) (by simp only [Act.put, List.setIfInBounds_toArray, List.set_cons_zero, List.set_cons_succ, i64_w, i32_w]; rfl) ?_
 ·intro w'
  first | (go_simp; done) | (go_simp; simp; done) | (go_simp; rfl)
 refine pure_ (i := 7) (N := some 59) (v := .bool true) (a' := ?_) #[true, true, true, true, true, true, true, true, false, false, false, false, false, false, false, false, false, false, false, false, false, false, false, false, false, false, false, false, false] rfl rfl (any_of HT_.out (by kernel_rfl)) (fun _ _ _ h => h) (Or.inl ⟨by rfl, ?_⟩) (by simp only [Act.put, List.setIfInBounds_toArray, List.set_cons_zero, List.set_cons_succ, i64_w, i32_w]; rfl) ?_
 ·intro w'
  first | (go_simp; done) | (go_simp; simp; done) | (go_simp; rfl)
 refine pure_ (i := 8) (N := some 60) (v := ?_) (a' := ?_) #[true, true, true, true, true, true, true, true, true, false, false, false, false, false, false, false, false, false, false, false, false, false, false, false, false, false, false, false, false] rfl rfl (any_of HT_.out (by kernel_rfl)) (fun _ _ _ h => h) (Or.inl ⟨by rfl, ?_⟩) ?_ ?_
 rotate_left
 ·intro w'
  go_simp
  with_reducible rfl
 rotate_left
 ·simp only [Act.put, List.setIfInBounds_toArray, List.set_cons_zero, List.set_cons_succ, i64_w, i32_w]
  rfl
 refine pure_ (i := 9) (N := some 61) (v := ?_) (a' := ?_) #[true, true, true, true, true, true, true, true, true, true, false, false, false, false, false, false, false, false, false, false, false, false, false, false, false, false, false, false, false] rfl rfl (any_of HT_.out (by kernel_rfl)) (fun _ _ _ h => h) (Or.inl ⟨by rfl, ?_⟩) ?_ ?_
 rotate_left
 ·intro w'
  go_simp
  with_reducible rfl
 rotate_left
 ·simp only [Act.put, List.setIfInBounds_toArray, List.set_cons_zero, List.set_cons_succ, i64_w, i32_w]
  rfl
 refine pure_ (i := 10) (N := some 62) (v := ?_) (a' := ?_) #[true, true, true, true, true, true, true, true, true, true, true, false, false, false, false, false, false, false, false, false, false, false, false, false, false, false, false, false, false] rfl rfl (any_of HT_.out (by kernel_rfl)) (fun _ _ _ h => h) (Or.inl ⟨by rfl, ?_⟩) ?_ ?_
 rotate_left
 ·intro w'
  go_simp
  with_reducible rfl
 rotate_left
 ·simp only [Act.put, List.setIfInBounds_toArray, List.set_cons_zero, List.set_cons_succ, i64_w, i32_w]
  rfl
 refine pure_ (i := 11) (N := some 63) (v := .bool true) (a' := ?_) #[true, true, true, true, true, true, true, true, true, true, true, true, false, false, false, false, false, false, false, false, false, false, false, false, false, false, false, false, false] rfl rfl (any_of HT_.out (by kernel_rfl)) (fun _ _ _ h => h) (Or.inl ⟨by rfl, ?_⟩) (by simp only [Act.put, List.setIfInBounds_toArray, List.set_cons_zero, List.set_cons_succ, i64_w, i32_w]; rfl) ?_
 ·intro w'
  first | (go_simp; done) | (go_simp; simp; done) | (go_simp; rfl)
 refine pure_ (i := 12) (N := some 64) (v := .bool true) (a' := ?_) #[true, true, true, true, true, true, true, true, true, true, true, true, true, false, false, false, false, false, false, false, false, false, false, false, false, false, false, false, false] rfl rfl (any_of HT_.out (by kernel_rfl)) (fun _ _ _ h => h) (Or.inl ⟨by rfl, ?_⟩) (by simp only [Act.put, List.setIfInBounds_toArray, List.set_cons_zero, List.set_cons_succ, i64_w, i32_w]; rfl) ?_
 ·intro w'
  first | (go_simp; done) | (go_simp; simp; done) | (go_simp; rfl)
 refine pure_ (i := 13) (N := some 65) (v := ?_) (a' := ?_) #[true, true, true, true, true, true, true, true, true, true, true, true, true, true, false, false, false, false, false, false, false, false, false, false, false, false, false, false, false] rfl rfl (any_of HT_.out (by kernel_rfl)) (fun _ _ _ h => h) (Or.inl ⟨by rfl, ?_⟩) ?_ ?_
 rotate_left
 ·intro w'
  go_simp
  with_reducible rfl
 rotate_left
 ·simp only [Act.put, List.setIfInBounds_toArray, List.set_cons_zero, List.set_cons_succ, i64_w, i32_w]
  rfl
 refine pure_ (i := 14) (N := some 66) (v := ?_) (a' := ?_) #[true, true, true, true, true, true, true, true, true, true, true, true, true, true, true, false, false, false, false, false, false, false, false, false, false, false, false, false, false] rfl rfl (any_of HT_.out (by kernel_rfl)) (fun _ _ _ h => h) (Or.inl ⟨by rfl, ?_⟩) ?_ ?_
 rotate_left
 ·intro w'
  go_simp
  with_reducible rfl
 rotate_left
 ·simp only [Act.put, List.setIfInBounds_toArray, List.set_cons_zero, List.set_cons_succ, i64_w, i32_w]
  rfl
 refine pure_ (i := 15) (N := some 67) (v := ?_) (a' := ?_) #[true, true, true, true, true, true, true, true, true, true, true, true, true, true, true, true, false, false, false, false, false, false, false, false, false, false, false, false, false] rfl rfl (any_of HT_.out (by kernel_rfl)) (fun _ _ _ h => h) (Or.inl ⟨by rfl, ?_⟩) ?_ ?_
 rotate_left
 ·intro w'
  go_simp
  with_reducible rfl
 rotate_left
 ·simp only [Act.put, List.setIfInBounds_toArray, List.set_cons_zero, List.set_cons_succ, i64_w, i32_w]
  rfl
 refine pure_ (i := 16) (N := some 68) (v := ?_) (a' := ?_) #[true, true, true, true, true, true, true, true, true, true, true, true, true, true, true, true, true, false, false, false, false, false, false, false, false, false, false, false, false] rfl rfl (any_of HT_.out (by kernel_rfl)) (fun _ _ _ h => h) (Or.inl ⟨by rfl, ?_⟩) ?_ ?_
 rotate_left
 ·intro w'
  go_simp
  with_reducible rfl
 rotate_left
 ·simp only [Act.put, List.setIfInBounds_toArray, List.set_cons_zero, List.set_cons_succ, i64_w, i32_w]
  rfl
 refine one_ (i := 17) (N := some 69) #[true, true, true, true, true, true, true, true, true, true, true, true, true, true, true, true, true, true, false, false, false, false, false, false, false, false, false, false, false] rfl rfl (one_of HT_.out (by kernel_rfl)) (by decide) (fun K hK => ?_)
 refine goes_ Tryd.func11 (by kernel_rfl) rfl #[.int .i64 c, .int .i64 a] (by rfl) rfl rfl (by (try simp only [List.map_toArray, List.map_cons, List.map_nil]); first | done | rfl) ?_
 refine (trystref01_Text.calls FunZ.K c a s _ HX.out).mono ?_
 rintro e w5 ⟨rfl, hb⟩
 refine ⟨_, rfl, ?_⟩
 replace B := Lib.hid (below_then B.out B.out.size hb)
 refine hK.out _ _ ⟨pw_cell_below hb hHeld.1, pw_cell_below hb hHeld.2.1, pw_cell_below hb hHeld.2.2.1, pw_cell_below hb hHeld.2.2.2.1, pw_cell_below hb hHeld.2.2.2.2.1, pw_cell_below hb hHeld.2.2.2.2.2⟩ (fun hHeld => ?_)
 clear hK K hb
 refine norm_ (a' := ?_) ?_ ?_
 rotate_left
 ·show Act.put _ (some 69) _ = _
  simp only [Act.put, List.setIfInBounds_toArray, List.set_cons_zero, List.set_cons_succ, i64_w, i32_w]
  rfl
 refine pure_ (i := 18) (N := some 70) (v := .bool true) (a' := ?_) #[true, true, true, true, true, true, true, true, true, true, true, true, true, true, true, true, true, true, true, false, false, false, false, false, false, false, false, false, false] rfl rfl (any_of HT_.out (by kernel_rfl)) (fun _ _ _ h => h) (Or.inl ⟨by rfl, ?_⟩) (by simp only [Act.put, List.setIfInBounds_toArray, List.set_cons_zero, List.set_cons_succ, i64_w, i32_w]; rfl) ?_
 ·intro w'
  first | (go_simp; done) | (go_simp; simp; done) | (go_simp; rfl)
 refine pure_ (i := 19) (N := some 71) (v := .bool true) (a' := ?_) #[true, true, true, true, true, true, true, true, true, true, true, true, true, true, true, true, true, true, true, true, false, false, false, false, false, false, false, false, false] rfl rfl (any_of HT_.out (by kernel_rfl)) (fun _ _ _ h => h) (Or.inl ⟨by rfl, ?_⟩) (by simp only [Act.put, List.setIfInBounds_toArray, List.set_cons_zero, List.set_cons_succ, i64_w, i32_w]; rfl) ?_
 ·intro w'
  first | (go_simp; done) | (go_simp; simp; done) | (go_simp; rfl)
 refine pure_ (i := 20) (N := some 72) (v := ?_) (a' := ?_) #[true, true, true, true, true, true, true, true, true, true, true, true, true, true, true, true, true, true, true, true, true, false, false, false, false, false, false, false, false] rfl rfl (any_of HT_.out (by kernel_rfl)) (fun _ _ _ h => h) (Or.inl ⟨by rfl, ?_⟩) ?_ ?_
 rotate_left
 ·intro w'
  go_simp
  with_reducible rfl
 rotate_left
 ·simp only [Act.put, List.setIfInBounds_toArray, List.set_cons_zero, List.set_cons_succ, i64_w, i32_w]
  rfl
 refine pure_ (i := 21) (N := some 73) (v := ?_) (a' := ?_) #[true, true, true, true, true, true, true, true, true, true, true, true, true, true, true, true, true, true, true, true, true, true, false, false, false, false, false, false, false] rfl rfl (any_of HT_.out (by kernel_rfl)) (fun _ _ _ h => h) (Or.inl ⟨by rfl, ?_⟩) ?_ ?_
 rotate_left
 ·intro w'
  go_simp
  with_reducible rfl
 rotate_left
 ·simp only [Act.put, List.setIfInBounds_toArray, List.set_cons_zero, List.set_cons_succ, i64_w, i32_w]
  rfl
 refine pure_ (i := 23) (N := some 75) (v := ?_) (a' := ?_) #[true, true, true, true, true, true, true, true, true, true, true, true, true, true, true, true, true, true, true, true, true, true, false, true, false, false, false, false, false] rfl rfl (any_of HT_.out (by kernel_rfl)) (fun _ _ _ h => h) (Or.inl ⟨by rfl, ?_⟩) ?_ ?_
 rotate_left
 ·intro w'
  go_simp
  with_reducible rfl
 rotate_left
 ·simp only [Act.put, List.setIfInBounds_toArray, List.set_cons_zero, List.set_cons_succ, i64_w, i32_w]
  rfl
 refine pure_ (i := 24) (N := some 76) (v := ?_) (a' := ?_) #[true, true, true, true, true, true, true, true, true, true, true, true, true, true, true, true, true, true, true, true, true, true, false, true, true, false, false, false, false] rfl rfl (any_of HT_.out (by kernel_rfl)) (fun _ _ _ h => h) (Or.inl ⟨by rfl, ?_⟩) ?_ ?_
 rotate_left
 ·intro w'
  go_simp
  with_reducible rfl
 rotate_left
 ·simp only [Act.put, List.setIfInBounds_toArray, List.set_cons_zero, List.set_cons_succ, i64_w, i32_w]
  rfl
 refine pure_ (i := 25) (N := some 77) (v := .string (ShowNm.nm c)) (a' := ?_) #[true, true, true, true, true, true, true, true, true, true, true, true, true, true, true, true, true, true, true, true, true, true, false, true, true, true, false, false, false] rfl rfl (any_of HT_.out (by kernel_rfl)) (fun _ _ _ h => h) (Or.inl ⟨by rfl, ?_⟩) (by simp only [Act.put, List.setIfInBounds_toArray, List.set_cons_zero, List.set_cons_succ, i64_w, i32_w]; rfl) ?_
 ·intro w'
  go_simp
  rw [hix.out]
  rfl
 refine one_ (i := 22) (N := some 74) #[true, true, true, true, true, true, true, true, true, true, true, true, true, true, true, true, true, true, true, true, true, true, true, true, true, true, false, false, false] rfl rfl (one_of HT_.out (by kernel_rfl)) (by decide) (fun K hK => ?_)
 refine goes_ Tryd.func9 (by kernel_rfl) rfl #[.int .i64 c] (by rfl) rfl rfl (by (try simp only [List.map_toArray, List.map_cons, List.map_nil]); first | done | rfl) ?_
 refine (ShowNm.name c _ (ShowNm.nms_below NN.out B.out) C.out.1 C.out.2).mono ?_
 rintro e w6 ⟨rfl, hb⟩
 refine ⟨_, rfl, ?_⟩
 replace B := Lib.hid (below_then B.out B.out.size hb)
 refine hK.out _ _ ⟨pw_cell_below hb hHeld.1, pw_cell_below hb hHeld.2.1, pw_cell_below hb hHeld.2.2.1, pw_cell_below hb hHeld.2.2.2.1, pw_cell_below hb hHeld.2.2.2.2.1, pw_cell_below hb hHeld.2.2.2.2.2⟩ (fun hHeld => ?_)
 clear hK K hb
 refine norm_ (a' := ?_) ?_ ?_
 rotate_left
 ·show Act.put _ (some 74) _ = _
  simp only [Act.put, List.setIfInBounds_toArray, List.set_cons_zero, List.set_cons_succ, i64_w, i32_w]
  rfl
 refine pure_ (i := 26) (N := some 78) (v := .bool true) (a' := ?_) #[true, true, true, true, true, true, true, true, true, true, true, true, true, true, true, true, true, true, true, true, true, true, true, true, true, true, true, false, false] rfl rfl (any_of HT_.out (by kernel_rfl)) (fun _ _ _ h => h) (Or.inl ⟨by rfl, ?_⟩) (by simp only [Act.put, List.setIfInBounds_toArray, List.set_cons_zero, List.set_cons_succ, i64_w, i32_w]; rfl) ?_
 ·intro w'
  first | (go_simp; done) | (go_simp; simp; done) | (go_simp; rfl)
 refine pure_ (i := 27) (N := some 79) (v := .bool true) (a' := ?_) #[true, true, true, true, true, true, true, true, true, true, true, true, true, true, true, true, true, true, true, true, true, true, true, true, true, true, true, true, false] rfl rfl (any_of HT_.out (by kernel_rfl)) (fun _ _ _ h => h) (Or.inl ⟨by rfl, ?_⟩) (by simp only [Act.put, List.setIfInBounds_toArray, List.set_cons_zero, List.set_cons_succ, i64_w, i32_w]; rfl) ?_
 ·intro w'
  first | (go_simp; done) | (go_simp; simp; done) | (go_simp; rfl)
 refine pure_ (i := 28) (N := some 4) (v := ?_) (a' := ?_) #[true, true, true, true, true, true, true, true, true, true, true, true, true, true, true, true, true, true, true, true, true, true, true, true, true, true, true, true, true] rfl rfl (any_of HT_.out (by kernel_rfl)) (fun _ _ _ h => h) (Or.inl ⟨by rfl, ?_⟩) ?_ ?_
 rotate_left
 ·intro w'
  go_simp
  with_reducible rfl
 rotate_left
 ·simp only [Act.put, List.setIfInBounds_toArray, List.set_cons_zero, List.set_cons_succ, i64_w, i32_w]
  rfl
 refine done_ (done_of HT_.out (by kernel_rfl)) ?_
 clear HT_ HW_
 go_wp2_with fail
 go_ret
 exact ⟨rfl, B.out⟩
set_option maxHeartbeats 8000000 in
theorem outL (c a : Int) (w : World) (ht : ShowAw.Tab w) (a0 : c < 0) :
  Calls Tryd.prog 3 #[.int .i64 c, .int .i64 a] w fun e w' => e = .returned (.bool true) ∧ Below w.heap.size w w' := by
 have hc : ¬ (0 ≤ c ∧ c ≤ 6) := by omega
 have T := Lib.hid ht
 have hC := Lib.hid hc
 have a1 : decide (c < 0) = true := decide_eq_true a0
 clear ht hc a0
 go_enter Tryd.func3, Tryd.ntmps3
 go_wp2_with fail
 refine (ShowAw.awake _ T.out).mono ?_
 rintro e wA ⟨rfl, hA⟩
 have B := Lib.hid hA
 clear hA
 go_wp2_with fail
 refine (ShowTx.dateOut c a _ hC.out).mono ?_
 rintro e w1 ⟨rfl, hB⟩
 replace B := Lib.hid (below_then B.out B.out.size hB)
 clear hB
 go_wp2_with fail
 refine (ShowTx.textNo c a 0 0 0 1 _ (by decide) (fun w => ShowTx.dateOut c a w hC.out)).mono ?_
 rintro e w2 ⟨rfl, hB⟩
 replace B := Lib.hid (below_then (below_alloc B.out _) (below_alloc B.out _).size hB)
 clear hB
 go_wp2_with fail
 refine (ShowNm.none_ c _ hC.out).mono ?_
 rintro e w3 ⟨rfl, hB⟩
 replace B := Lib.hid (below_then B.out B.out.size hB)
 clear hB
 go_wp2_with fail
 go_ret
 exact ⟨rfl, B.out⟩
set_option maxHeartbeats 8000000 in
theorem outG (c a : Int) (w : World) (ht : ShowAw.Tab w) (a0 : ¬ c < 0) (a6 : c > 6) :
  Calls Tryd.prog 3 #[.int .i64 c, .int .i64 a] w fun e w' => e = .returned (.bool true) ∧ Below w.heap.size w w' := by
 have hc : ¬ (0 ≤ c ∧ c ≤ 6) := by omega
 have T := Lib.hid ht
 have hC := Lib.hid hc
 have a1 : decide (c < 0) = false := decide_eq_false a0
 have a2 : decide (c > 6) = true := decide_eq_true a6
 have a3 : decide (6 < c) = true := a2
 clear ht hc a0 a6
 go_enter Tryd.func3, Tryd.ntmps3
 go_wp2_with fail
 refine (ShowAw.awake _ T.out).mono ?_
 rintro e wA ⟨rfl, hA⟩
 have B := Lib.hid hA
 clear hA
 go_wp2_with fail
 refine (ShowTx.dateOut c a _ hC.out).mono ?_
 rintro e w1 ⟨rfl, hB⟩
 replace B := Lib.hid (below_then B.out B.out.size hB)
 clear hB
 go_wp2_with fail
 refine (ShowTx.textNo c a 0 0 0 1 _ (by decide) (fun w => ShowTx.dateOut c a w hC.out)).mono ?_
 rintro e w2 ⟨rfl, hB⟩
 replace B := Lib.hid (below_then (below_alloc B.out _) (below_alloc B.out _).size hB)
 clear hB
 go_wp2_with fail
 refine (ShowNm.none_ c _ hC.out).mono ?_
 rintro e w3 ⟨rfl, hB⟩
 replace B := Lib.hid (below_then B.out B.out.size hB)
 clear hB
 go_wp2_with fail
 go_ret
 exact ⟨rfl, B.out⟩
end ShowDatesW
theorem ShowDates_calls (c a : Int) (w : World) (ht : ShowAw.Tab w) (hn : ShowNm.Nms w) : Calls Tryd.prog 3 #[.int .i64 c, .int .i64 a] w fun e w' => e = .returned (.bool true) ∧ Below w.heap.size w w' := by
 by_cases h0 : c < 0
 ·exact ShowDatesW.outL c a w ht h0
 by_cases h6 : c > 6
 ·exact ShowDatesW.outG c a w ht h0 h6
 obtain ⟨y, m, d, e0, hR, y1, y2, he, hm, hD⟩ := ShowDt.date c a (by omega) (by omega)
 obtain ⟨s, hT, hX⟩ : ∃ s : ByteArray, (∀ w : World, ShowAw.Tab w → Calls Tryd.prog 8 #[.int .i64 c, .int .i64 a] w fun e w' => e = .returned (.tuple #[.string s, .int .i64 e0]) ∧ Below w.heap.size w w') ∧ trystref01_Text.f FunZ.K c a = some s := by
  rcases he with rfl | rfl
  ·exact ⟨_, fun w hw => ShowTx.textYes c a y m d _ w hw hD (fun w hw => ShowTx.written c y m d w hw y1 y2 (hm rfl)), ShowTx.refYes c a y m d hR y1 y2 (hm rfl)⟩
  ·exact ⟨_, fun w hw => ShowTx.textNo c a y m d 2 w (by decide) hD, ShowTx.refNo c a y m d hR⟩
 exact ShowDatesW.walk c a y m d e0 s w (by omega) (by omega) ht hn hD hT hR hX
end Go.Proofs.YtgbbgcepcnklkaaDoor.Pure
