/- slices.SortFunc at agenda.Neat's spans: the row of the call's own holds, behind it, the plain sort of what it held. -/
import Derived.Test.YtddoidcbpcmlaaaG0
import Derived.Shelf.SlSortCmp.NoneTotal
import Derived.Ground.SlsfProg
import Derived.Shelf.Lay
import Derived.Sort.AssemblyPlain
namespace Go.Proofs.Ytddoidcbpcmlaaa.SortS
open Go.Shelf Go.RowKit Go.Lib Go.Sort Go.Proofs.Ytddoidcbpcmlaaa.G Go.Proofs.YtddoidcbpcmlaaaW.PrintWords
set_option linter.unusedVariables false
set_option linter.unusedSimpArgs false
shelf_lay_g SlLaysF0.n6 Slsf 6 at Try 45 as sortSpan
abbrev Sp := S67
instance : Inhabited Sp := ⟨z67⟩
def enc (x : Sp) : List Value := [.int .i64 x.f0, .int .i64 x.f1]
def cf (x y : Sp) : Int := Lib.compareInt x.f0 y.f0
theorem ltC (x y : Sp) : ltOf cf x y = decide (x.f0 < y.f0) := by
  unfold ltOf cf Lib.compareInt
  by_cases h1 : x.f0 < y.f0
  · simp [h1]
  · by_cases h2 : y.f0 < x.f0 <;> simp [h1, h2]
theorem swo : SWO (ltOf cf) where
  irrefl x := by rw [ltC]; simp
  trans x y z h1 h2 := by rw [ltC] at *; simp at *; omega
  ntrans x y z h1 h2 := by rw [ltC] at *; simp at *; omega
/-- What the sort makes of a list. -/
@[irreducible] def srt (xs : List Sp) : List Sp := (pdq (ltOf cf) xs.toArray 0 xs.toArray.size (Lib.bitLen xs.toArray.size) true true).toList
theorem srt_spec (xs : List Sp) : (srt xs).Perm xs ∧ ∀ i j, i < j → j < xs.length → (srt xs)[i]!.f0 ≤ (srt xs)[j]!.f0 := by
  unfold srt
  have h := pdq_sorts (ltOf cf) swo xs.toArray 0 xs.toArray.size (Lib.bitLen xs.toArray.size) true true (Nat.zero_le _) (Nat.le_refl _) (Or.inl rfl)
  generalize pdq (ltOf cf) xs.toArray 0 xs.toArray.size (Lib.bitLen xs.toArray.size) true true = d at h ⊢
  obtain ⟨⟨h1, h2, h3⟩, h4⟩ := h
  constructor
  · have e1 : d.extract 0 xs.toArray.size = d := by rw [← h1]; simp
    have e2 : xs.toArray.extract 0 xs.toArray.size = xs.toArray := by simp
    rw [e1, e2] at h3
    exact h3
  · intro i j hij hj
    have := h4 i j (Nat.zero_le _) hij (by simpa using hj)
    rw [ltC] at this
    simp at this
    have hd : d.size = xs.length := by simpa using h1
    rw [getElem!_pos d.toList i (by simp; omega), getElem!_pos d.toList j (by simp; omega)]
    rw [getElem!_pos d i (by omega), getElem!_pos d j (by omega)] at this
    simpa using this
theorem srt_length (xs : List Sp) : (srt xs).length = xs.length := (srt_spec xs).1.length_eq
theorem srt_array (xs : List Sp) : (srt xs).toArray = pdq (ltOf cf) xs.toArray 0 xs.toArray.size (Lib.bitLen xs.toArray.size) true true := by unfold srt; simp
set_option maxHeartbeats 1000000 in
theorem nan (x : Int) (W : World) : Calls Try.prog 63 #[.int .i64 x] W fun e w' => e = .returned (.bool false) ∧ w' = W := by
  go_enter Try.func63, Try.ntmps63
  go_wp2
  go_ret
  simp
set_option maxHeartbeats 1000000 in
theorem compare (x y : Int) (W : World) : Calls Try.prog 47 #[.int .i64 x, .int .i64 y] W fun e w' => e = .returned (.int .i64 (Lib.compareInt x y)) ∧ w' = W := by
  by_cases a : x < y
  · have a1 := eq_true a
    go_enter Try.func47, Try.ntmps47
    go_wp2_with (go_at_call 63; refine (nan _ _).mono ?_; rintro e w' ⟨rfl, rfl⟩)
    go_ret
    simp [Lib.compareInt, a]
  · have a1 := eq_false a
    by_cases b : y < x
    · have b1 := eq_true b
      have c1 : (x > y) = True := b1
      go_enter Try.func47, Try.ntmps47
      go_wp2_with (go_at_call 63; refine (nan _ _).mono ?_; rintro e w' ⟨rfl, rfl⟩)
      go_ret
      simp [Lib.compareInt, a, b]
    · have b1 := eq_false b
      have c1 : (x > y) = False := b1
      go_enter Try.func47, Try.ntmps47
      go_wp2_with (go_at_call 63; refine (nan _ _).mono ?_; rintro e w' ⟨rfl, rfl⟩)
      go_ret
      have h : Lib.compareInt x y = 0 := by unfold Lib.compareInt; rw [if_neg (by omega), if_neg (by omega)]
      rw [h]; exact ⟨rfl, rfl⟩
set_option maxHeartbeats 1000000 in
theorem closure (x y : Sp) (W : World) : Calls Try.prog 46 #[.agg #[.int .i64 x.f0, .int .i64 x.f1], .agg #[.int .i64 y.f0, .int .i64 y.f1]] W fun e w' => e = .returned (.int .i64 (Lib.compareInt x.f0 y.f0)) ∧ ∃ q os', w' = grow (W.drewN q) os' := by
  have hcon := fun W' => compare x.f0 y.f0 W'
  generalize Lib.compareInt x.f0 y.f0 = r at hcon ⊢
  go_enter Try.func46, Try.ntmps46
  go_wp2_with (go_at_call 47; refine (hcon _).mono ?_; rintro e w' ⟨rfl, rfl⟩)
  go_ret
  exact ⟨rfl, 0, _, by rw [alloc_eq_grow, alloc_eq_grow, grow_grow]; rfl⟩
theorem cmpLays (blk off size : Nat) (w : World) : CmpLays Try.prog 46 #[] enc 2 cf blk off size w :=
  fun _ _ _ _ x y => closure x y _
theorem two (d : Array Sp) (j : Nat) (hj : j < d.size) : ((flatK enc 2 d).toList.drop (j * 2)).take 2 = enc d[j]! := by
  apply List.ext_getElem?
  intro i
  have hs : (flatK enc 2 d).size = d.size * 2 := size_flatK enc 2 d
  by_cases hi : i < 2
  · rw [List.getElem?_take, if_pos hi, List.getElem?_drop, Array.getElem?_toList]
    have ht : j * 2 + i < d.size * 2 := by omega
    have := get_flatK enc 2 d (j * 2 + i) ht
    rw [show (j * 2 + i) / 2 = j by omega, show (j * 2 + i) % 2 = i by omega] at this
    rw [getElem!_pos (flatK enc 2 d) _ (by rw [hs]; exact ht)] at this
    rw [Array.getElem?_eq_getElem (by rw [hs]; exact ht), this]
    have hl : i < (enc d[j]!).length := hi
    rw [List.getElem?_eq_getElem hl, getElem!_pos (enc d[j]!) i hl]
  · rw [List.getElem?_take, if_neg hi, List.getElem?_eq_none (by show 2 ≤ i; omega)]
/-- THE CONTRACT, for a row of the call's own. -/
theorem sort_calls {w0 W : World} {base : Nat} {ok : Nat → Prop} {A : Option Addr} {n c : Nat} {xs : List Sp} (HO : Kd.R k67 67 W base ok (.slice A n c) xs) (HB : Below base w0 W) (hsz : xs.length < 4611686018427387904) :
    Calls Try.prog 45 #[.slice A n c, .func (.func 46) #[] #[]] W fun e w' => e = .returned (.tuple #[]) ∧ Kd.R k67 67 w' base ok (.slice A n c) (srt xs) ∧ Below base w0 w' := by
  have hn : n = xs.length := (Kd.R_reads' HO).1
  obtain ⟨hok, inner, ⟨hlen, hown⟩, hr⟩ := HO
  rcases hown with ⟨hv, hz⟩ | ⟨g, cap, cur, hv, hbg, hh, hnc, hcm, hcs, ht⟩
  · injection hv with h1 h2 h3
    subst h1; subst h3
    have hx : xs = [] := List.eq_nil_of_length_eq_zero (by omega)
    subst hx
    have hs : srt [] = [] := List.eq_nil_of_length_eq_zero (srt_length [])
    subst h2
    refine (AnyF.slices_SortFunc_none sortSpan none 0 (.func (.func 46) #[] #[]) W).mono ?_
    rintro e w' ⟨rfl, rfl⟩
    rw [hs]
    exact ⟨rfl, Kd.R_nil _ _ _ _ _, HB⟩
  · injection hv with h1 h2 h3
    subst h1; subst h3
    have hsz2 : inner.length = xs.length * 2 := hr.1
    have hcell : ∀ j, j < xs.length → (inner.drop (j * 2)).take 2 = enc xs[j]! := by
      intro j hj
      have := hr.2 j _ (List.getElem?_eq_getElem hj)
      rw [getElem!_pos xs j hj]
      exact k67_openM this
    have hflat : ∀ t, t < xs.length * 2 → cur[t]? = some ((flatK enc 2 xs.toArray)[t]!) := by
      intro t htl
      have h2 := two xs.toArray (t / 2) (by simp; omega)
      have h3 := hcell (t / 2) (by omega)
      have e1 : xs.toArray[t / 2]! = xs[t / 2]! := by simp
      rw [e1, ← h3] at h2
      have h4 := congrArg (fun l => l[t % 2]?) h2
      simp only [List.getElem?_take, if_pos (show t % 2 < 2 by omega), List.getElem?_drop, show t / 2 * 2 + t % 2 = t by omega, Array.getElem?_toList] at h4
      have hs : (flatK enc 2 xs.toArray).size = xs.length * 2 := by simp
      rw [Array.getElem?_eq_getElem (by omega)] at h4
      rw [getElem!_pos (flatK enc 2 xs.toArray) t (by omega), h4, ← ht, List.getElem?_take, if_pos (by rw [hn] at *; show t < xs.length * 2; omega), Array.getElem?_toList]
    have hH : HoldsK enc 2 W g 0 xs.toArray := by
      intro j hj
      have hj2 : j < xs.length * 2 := by simpa using hj
      rw [Nat.zero_add]
      exact ⟨(blk_cell hh j).trans (hflat j hj2), blk_frozen hh j⟩
    have hblk : g < W.heap.size := by
      obtain ⟨hl, _⟩ := Array.getElem?_eq_some_iff.1 hh
      exact hl
    have eg : ∀ args w, (callFunc 46 args).run Try.prog w = .ok (.enter 46 args) w := enters_of Try.func46 (by kernel_rfl) rfl
    have hcon := AnyQ.slices_SortFunc_eq sortSpan 2 Try.isAgg67 Try.sizeOf67 enc (fun _ => rfl) (fun x v hv => by simp [enc] at hv; rcases hv with rfl | rfl <;> rfl) cf swo 46 #[] g 0 c xs.toArray W eg (cmpLays g 0 _ W) hH hblk (by simpa using hsz)
    rw [← srt_array] at hcon
    rw [show xs.toArray.size = n by simp [hn]] at hcon
    refine hcon.mono ?_
    rintro e w' ⟨rfl, q, os, rfl⟩
    have hl := srt_length xs
    have hg1 : (sortWorldK enc 2 W g 0 q (srt xs).toArray os).heap[g]? = some (.cells (putCells id 0 (flatK enc 2 (srt xs).toArray) cur) 67 (0, 0)) := by
      show (W.heap.modify g (onCells (putCells id 0 (flatK enc 2 (srt xs).toArray))) ++ os)[g]? = _
      rw [Array.getElem?_append_left (by simpa using hblk), Array.getElem?_modify, if_pos rfl, hh]
      rfl
    have hfar : ∀ k, k < W.heap.size → k ≠ g → (sortWorldK enc 2 W g 0 q (srt xs).toArray os).heap[k]? = W.heap[k]? := by
      intro k hk hkg
      show (W.heap.modify g (onCells (putCells id 0 (flatK enc 2 (srt xs).toArray))) ++ os)[k]? = _
      rw [Array.getElem?_append_left (by simpa using hk), Array.getElem?_modify, if_neg (fun e => hkg e.symm)]
    refine ⟨rfl, ⟨hok, (flatK enc 2 (srt xs).toArray).toList, ⟨?_, .inr ⟨g, c, _, by rw [hn, hl], hbg, hg1, by rw [hl]; first | exact hnc | (rw [← hn]; exact hnc), hcm, ?_, ?_⟩⟩, ?_, ?_⟩, HB.trans ⟨rfl, rfl, rfl, ?_, ?_⟩⟩
    · show (flatK enc 2 (srt xs).toArray).toList.length = _
      simp
      rfl
    · simp [putCells]
      exact hcs
    · apply List.ext_getElem?
      intro t
      have hs : (flatK enc 2 (srt xs).toArray).size = xs.length * 2 := by simp [hl]
      rw [List.getElem?_take]
      have e0 : (srt xs).length * Kd.sz k67 = xs.length * 2 := by rw [hl]; rfl
      rw [e0]
      have hcc : cur.size = c * 2 := hcs
      by_cases h : t < xs.length * 2
      · rw [if_pos h, Array.getElem?_toList, Array.getElem?_toList]
        rw [Array.getElem?_eq_getElem (by simp [putCells]; omega), Array.getElem?_eq_getElem (by omega)]
        simp only [putCells, Array.getElem_mapIdx]
        rw [if_pos (by omega), getElem!_pos _ _ (by omega)]
        simp
      · rw [if_neg h, Array.getElem?_toList, Array.getElem?_eq_none (by omega)]
    · simp
      rfl
    · intro j p hp
      obtain ⟨hj, hp2⟩ := List.getElem?_eq_some_iff.1 hp
      show (k67).M _ _ _ _ ((_ : List Value).drop (j * 2) |>.take 2)
      rw [two _ j (by simpa using hj)]
      have e1 : (srt xs).toArray[j]! = p := by rw [getElem!_pos _ j (by simpa using hj)]; simpa using hp2
      rw [e1]
      exact k67_mkM _ _ _ p
    · show W.heap.size ≤ (W.heap.modify g (onCells (putCells id 0 (flatK enc 2 (srt xs).toArray))) ++ os).size
      simp
    · intro k hk
      rcases Nat.lt_or_ge k W.heap.size with h | h
      · exact hfar k h (by omega)
      · exfalso
        omega
end Go.Proofs.Ytddoidcbpcmlaaa.SortS
