/- An event that holds nothing but people, its cells closed to simp; Find over it. -/
import Derived.Test.YtddoidcbpcmlaaaQfind
import Derived.Laws.Tables
import Derived.Laws.CopyOwn
import Derived.Lib.Hide
namespace Go.Proofs.Ytddoidcbpcmlaaa.Evp
open Go.RowKit Go.Proofs.YtddoidcbpcmlaaaW.PrintWords Go.Proofs.YtddoidcbpcmlaaaW.PrintLast Go.Proofs.Ytddoidcbpcmlaaa.Q
set_option linter.unusedVariables false
set_option linter.unusedSimpArgs false
abbrev evq (p : Value) : Array Value := #[.string ⟨#[]⟩, .int .i64 0, .int .i64 0, .int .i64 0, .int .i64 0, .string ⟨#[]⟩, .bool false, .int .i64 0, .int .i64 0, .int .i64 0, .int .i64 0, .int .i64 0, .string ⟨#[]⟩, .bool false, .int .i64 0, .slice none 0 0, .slice none 0 0, .slice none 0 0, .slice none 0 0, .slice none 0 0, .slice none 0 0, .slice none 0 0, .slice none 0 0, .slice none 0 0, .slice none 0 0, .slice none 0 0, .int .i64 0, .string ⟨#[]⟩, .string ⟨#[]⟩, .int .i64 0, .string ⟨#[]⟩, p, .bool false, .int .i64 0, .int .i64 0, .string ⟨#[]⟩, .bool false, .slice none 0 0]
@[irreducible] def evp (A : Option Addr) (n c : Nat) : Array Value := evq (.slice A n c)
theorem evp_size (A : Option Addr) (n c : Nat) : (evp A n c).size = 38 := by unfold evp; rfl
theorem evp_one (A : Option Addr) (n c : Nat) : (evp A n c).all (·.oneCell') = true := by unfold evp; kernel_rfl
theorem evp_info (A : Option Addr) (n c : Nat) : (Try.prog.info? 36).map (·.size) = some (evp A n c).size := by rw [evp_size]; kernel_rfl
theorem zero (w : World) : (zeroValue 36).run Try.prog w = .ok (.agg (evp none 0 0)) w := by unfold evp; exact Try.zeroValue36 w
theorem build (w : World) (A : Option Addr) (n c : Nat) : (Instr.build 36 #[(9, .slice A n c)]).run Try.prog w = .ok (.agg (evp A n c)) w := run_build w _ _ _ (by unfold evp; kernel_rfl)
theorem wpList_alloc {ops : Array Oper} {rest : List Oper} {o : Oper} {a : Act} {w : World} {Q : Exit → Act → World → Prop} (hg : o.guard = none) (ho : o.op = .alloc 36)
    (h : wpList Try.prog ops Q rest (a.put o.dst (.pointer (some ⟨w.heap.size, 0, none⟩))) (w.alloc (.cells (evp none 0 0) 36))) : wpList Try.prog ops Q (o :: rest) a w := by
  refine wpList_plain hg fun _ hK => ?_
  unfold Oper.wp execOp
  simp only [ho, Instr.alloc, Sem.run_bind, zero, Result.andThen_ok, go_sem]
  exact hK _ _ h
theorem wpList_buildE {ops : Array Oper} {rest : List Oper} {o : Oper} {a : Act} {w : World} {Q : Exit → Act → World → Prop} (hg : o.guard = none) (x : Operand) (ho : o.op = .build 36 #[(9, x)])
    (A : Option Addr) (n c : Nat) (hx : a.eval x = .slice A n c)
    (h : wpList Try.prog ops Q rest (a.put o.dst (.agg (evp A n c))) w) : wpList Try.prog ops Q (o :: rest) a w := by
  refine wpList_plain hg fun _ hK => ?_
  unfold Oper.wp execOp
  simp only [ho, Sem.run_bind, List.map_toArray, List.map_cons, List.map_nil, hx, build, Result.andThen_ok]
  exact hK _ _ h
theorem wpList_store {ops : Array Oper} {rest : List Oper} {o : Oper} {a : Act} {w : World} {Q : Exit → Act → World → Prop} (hg : o.guard = none) (x y : Operand) (ho : o.op = .store 36 x y)
    (g : Nat) (A : Option Addr) (n c : Nat) (hx : a.eval x = .pointer (some ⟨g, 0, none⟩)) (hy : a.eval y = .agg (evp A n c)) (hh : w.heap[g]? = some (.cells (evp none 0 0) 36 (0, 0)))
    (h : wpList Try.prog ops Q rest (a.put o.dst undef) (w.setRow g (evp A n c))) : wpList Try.prog ops Q (o :: rest) a w :=
  wpList_store_row hg 36 x y ho g (evp A n c) hx hy 36 (evp none 0 0) hh (evp_info A n c) (by rw [evp_size, evp_size]) (evp_one A n c) h
theorem wpList_load {ops : Array Oper} {rest : List Oper} {o : Oper} {a : Act} {w : World} {Q : Exit → Act → World → Prop} (hg : o.guard = none) (x : Operand) (ho : o.op = .load 36 x)
    (g : Nat) (A : Option Addr) (n c : Nat) (hx : a.eval x = .pointer (some ⟨g, 0, none⟩)) (hh : w.heap[g]? = some (.cells (evp A n c) 36 (0, 0)))
    (h : wpList Try.prog ops Q rest (a.put o.dst (.agg (evp A n c))) w) : wpList Try.prog ops Q (o :: rest) a w :=
  wpList_load_row hg 36 x ho g hx 36 (evp A n c) (0, 0) _ hh Try.underlying36 rfl (evp_info A n c) h
theorem find (k : Nat) (A : Option Addr) (c : Nat) (l : List S40) (s : ByteArray) (p0 : ByteArray) (p1 p2 : Int) (p3 : Bool) (p4 p5 : ByteArray) (ok : Bool) (w : World) (hC : Kd.C k40 w A l.length l) (hc : l.length ≤ c)
    (h : event_Find.f k ⟨#[]⟩ 0 0 0 0 ⟨#[]⟩ false 0 0 0 0 0 ⟨#[]⟩ false 0 [] [] [] [] [] [] [] [] [] [] [] 0 ⟨#[]⟩ ⟨#[]⟩ 0 ⟨#[]⟩ l false 0 0 ⟨#[]⟩ false [] s = some (p0, p1, p2, p3, p4, p5, ok)) :
    Calls Try.prog 11 #[.agg (evp A l.length c), .string s] w fun e w' => e = .returned (.tuple #[.agg #[.string p0, .int .i64 p1, .int .i64 p2, .bool p3, .string p4, .string p5], .bool ok]) ∧ Below w.heap.size w w' := by
  unfold evp
  exact event_Find.calls k ⟨#[]⟩ 0 0 0 0 ⟨#[]⟩ false 0 0 0 0 0 ⟨#[]⟩ false 0 none 0 [] none 0 [] none 0 [] none 0 [] none 0 [] none 0 [] none 0 [] none 0 [] none 0 [] none 0 [] none 0 [] 0 ⟨#[]⟩ ⟨#[]⟩ 0 ⟨#[]⟩ A c l false 0 0 ⟨#[]⟩ false none 0 [] s p0 p1 p2 p3 p4 p5 ok w
    (Kd.C_nil _ _) (Nat.le_refl _) (Kd.C_nil _ _) (Nat.le_refl _) (Kd.C_nil _ _) (Nat.le_refl _) (Kd.C_nil _ _) (Nat.le_refl _) (Kd.C_nil _ _) (Nat.le_refl _) (Kd.C_nil _ _) (Nat.le_refl _) (Kd.C_nil _ _) (Nat.le_refl _) (Kd.C_nil _ _) (Nat.le_refl _) (Kd.C_nil _ _) (Nat.le_refl _) (Kd.C_nil _ _) (Nat.le_refl _) (Kd.C_nil _ _) (Nat.le_refl _) hC hc (Kd.C_nil _ _) (Nat.le_refl _) h
end Go.Proofs.Ytddoidcbpcmlaaa.Evp
