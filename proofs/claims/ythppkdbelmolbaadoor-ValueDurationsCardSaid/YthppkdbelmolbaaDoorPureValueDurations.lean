/- Any seconds are written as a duration as the document says, and read as they were: the law, walked, under the table's condition. -/
import Derived.Test.YthppkdbelmolbaaDoorDurW
import Derived.Test.YthppkdbelmolbaaDoorDurQ
namespace Go.Proofs.YthppkdbelmolbaaDoor.Pure
open Go.RowKit Go.Proofs.YthppkdbelmolbaaDoorW.PrintWords Go.Proofs.YthppkdbelmolbaaDoorW.PrintLast Go.Proofs.YthppkdbelmolbaaDoor.Q Go.Proofs.YthppkdbelmolbaaDoor.DurD
set_option linter.unusedVariables false
set_option linter.unusedSimpArgs false
theorem full_len (n : Int) (h0 : -10000000000 ≤ n) (h1 : n ≤ 10000000000) : (full n).length ≤ 1000 := by
  have key : ∀ m : Int, 0 ≤ m → m ≤ 10000000000 → (txt m).length ≤ 100 := by
    intro m m0 m1
    have l1 := DurQ.nl (m / 604800) (by omega)
    have l2 := DurQ.nl (m / 86400) (by omega)
    have l3 := DurQ.nl (m % 86400 / 3600) (by omega)
    have l4 := DurQ.nl (m % 86400 / 60 % 60) (by omega)
    have l5 := DurQ.nl (m % 86400 % 60) (by omega)
    have l6 := DurQ.nl (m % 60) (by omega)
    unfold txt clk
    (repeat' split) <;> simp <;> omega
  unfold full
  split
  · have := key (-n) (by omega) (by omega); simp; omega
  · have := key n (by omega) (by omega); simp; omega
set_option maxHeartbeats 8000000 in
theorem ValueDurations_calls (n : Int) (w : World) (htab : Lib.TabIs Tryd.prog w "internal/strconv.uint64pow10" .u64 Lib.pow10Tab) :
    Calls Tryd.prog 7 #[.int .i64 n] w fun e w' => e = .returned (.bool true) ∧ Below w.heap.size w w' := by
  by_cases c : -10000000000 ≤ n ∧ n ≤ 10000000000
  · have hr := Lib.hid (DurQ.ref 30 (by omega) n c.1 c.2)
    have hv : Hid (value_ParseDuration.f 20 ⟨(full n).toArray⟩ = some (n, 0)) := Lib.hid (by
      rw [SpansR.val 20 (full n) (full_len n c.1 c.2) (by omega), back n c.1 c.2])
    have T := Lib.hid htab
    clear htab
    have hd := Lib.hid (fun w0 t0 => DurW.dur n c.1 c.2 w0 t0)
    clear c
    go_enter Tryd.func7, Tryd.ntmps7
    go_wp2_with fail
    refine (Awake12.awake _).mono ?_
    rintro e w1 ⟨rfl, hB⟩
    have B := Lib.hid hB
    clear hB
    go_wp2_with fail
    refine (hd.out _ (DurW.tab_below T.out B.out)).mono ?_
    rintro e w2 ⟨rfl, hB⟩
    replace B := Lib.hid (below_then B.out B.out.size hB)
    clear hB
    go_wp2_with fail
    refine (trystref12_Duration.calls 30 n _ _ _ hr.out).mono ?_
    rintro e w3 ⟨rfl, hB⟩
    replace B := Lib.hid (below_then B.out B.out.size hB)
    clear hB
    go_wp2_with fail
    refine (value_ParseDuration.calls 20 _ _ _ _ hv.out).mono ?_
    rintro e w4 ⟨rfl, hB⟩
    replace B := Lib.hid (below_then B.out B.out.size hB)
    clear hB
    go_wp2_with fail
    go_ret
    exact ⟨rfl, B.out⟩
  · have c' : n < -10000000000 ∨ 10000000000 < n := by omega
    have hr := Lib.hid (DurQ.refOut 30 (by omega) n c')
    have hd := Lib.hid (fun w0 => DurW.durOut n c' w0)
    have hp : ∃ r, value_ParseDuration.f 20 ⟨([] : List UInt8).toArray⟩ = some r := ⟨_, SpansR.val 20 [] (by simp) (by omega)⟩
    obtain ⟨⟨r1, r2⟩, hp⟩ := hp
    have hv := Lib.hid hp
    clear hp c c' htab
    go_enter Tryd.func7, Tryd.ntmps7
    go_wp2_with fail
    refine (Awake12.awake _).mono ?_
    rintro e w1 ⟨rfl, hB⟩
    have B := Lib.hid hB
    clear hB
    go_wp2_with fail
    refine (hd.out _).mono ?_
    rintro e w2 ⟨rfl, hB⟩
    replace B := Lib.hid (below_then B.out B.out.size hB)
    clear hB
    go_wp2_with fail
    refine (trystref12_Duration.calls 30 n _ _ _ hr.out).mono ?_
    rintro e w3 ⟨rfl, hB⟩
    replace B := Lib.hid (below_then B.out B.out.size hB)
    clear hB
    go_wp2_with fail
    refine (value_ParseDuration.calls 20 _ _ _ _ hv.out).mono ?_
    rintro e w4 ⟨rfl, hB⟩
    replace B := Lib.hid (below_then B.out B.out.size hB)
    clear hB
    go_wp2_with fail
    go_ret
    exact ⟨rfl, B.out⟩
end Go.Proofs.YthppkdbelmolbaaDoor.Pure
