/- '==' of two arrays of two or three whole numbers. -/
import Derived.WalkKit
import Derived.Laws.StructEq
namespace Go.Proofs.Ytddoidcbpcmlaaa.ArrEq
open Go.RowKit
theorem eqI (P : Program) (e : TypeId) (he : P.underlying e = some (.int .i64)) (d : Nat) (x y : Int) (w : World) : (Op.equalIn (d + 1) e (.int .i64 x) (.int .i64 y)).run P w = .ok (x == y) w := by
  simp [Op.equalIn, run_underlying he]
set_option maxHeartbeats 1000000 in
theorem in2 (w : World) (P : Program) (e : TypeId) (he : P.underlying e = some (.int .i64)) (hz : ∀ w, (Go.sizeOf e).run P w = .ok 1 w) (ha : ∀ w, (isAgg e).run P w = .ok false w) (d : Nat) (t : TypeId) (ht : P.underlying t = some (.array 2 e)) (x y x' y' : Int) :
    (Op.equalIn (d + 2) t (.agg #[.int .i64 x, .int .i64 y]) (.agg #[.int .i64 x', .int .i64 y'])).run P w = .ok (x == x' && y == y') w := by
  have h1 := eqI P e he d
  rw [show d + 2 = (d + 1) + 1 from rfl]
  unfold Op.equalIn
  simp only [Sem.run_bind, run_underlying ht, go_sem]
  simp only [Result.andThen, Sem.run_bind, hz]
  rw [Std.Legacy.Range.forIn_eq_forIn_range', show List.range' ([:2] : Std.Legacy.Range).start ([:2] : Std.Legacy.Range).size ([:2] : Std.Legacy.Range).step = [0, 1] from rfl]
  by_cases hx : x = x' <;> by_cases hy : y = y' <;> simp [List.forIn_cons, ha, h1, hx, hy, go_sem]
theorem eq2 (w : World) (P : Program) (e : TypeId) (he : P.underlying e = some (.int .i64)) (hz : ∀ w, (Go.sizeOf e).run P w = .ok 1 w) (ha : ∀ w, (isAgg e).run P w = .ok false w) (t : TypeId) (ht : P.underlying t = some (.array 2 e)) (x y x' y' : Int) :
    (binOp .eql t (.agg #[.int .i64 x, .int .i64 y]) (.agg #[.int .i64 x', .int .i64 y'])).run P w = .ok (.bool (x == x' && y == y')) w := by
  simp only [binOp]
  simp [Op.equal, Op.maxDepth, in2 w P e he hz ha 9998 t ht]
set_option maxHeartbeats 1000000 in
theorem in3 (w : World) (P : Program) (e : TypeId) (he : P.underlying e = some (.int .i64)) (hz : ∀ w, (Go.sizeOf e).run P w = .ok 1 w) (ha : ∀ w, (isAgg e).run P w = .ok false w) (d : Nat) (t : TypeId) (ht : P.underlying t = some (.array 3 e)) (x y z x' y' z' : Int) :
    (Op.equalIn (d + 2) t (.agg #[.int .i64 x, .int .i64 y, .int .i64 z]) (.agg #[.int .i64 x', .int .i64 y', .int .i64 z'])).run P w = .ok (x == x' && (y == y' && z == z')) w := by
  have h1 := eqI P e he d
  rw [show d + 2 = (d + 1) + 1 from rfl]
  unfold Op.equalIn
  simp only [Sem.run_bind, run_underlying ht, go_sem]
  simp only [Result.andThen, Sem.run_bind, hz]
  rw [Std.Legacy.Range.forIn_eq_forIn_range', show List.range' ([:3] : Std.Legacy.Range).start ([:3] : Std.Legacy.Range).size ([:3] : Std.Legacy.Range).step = [0, 1, 2] from rfl]
  by_cases hx : x = x' <;> by_cases hy : y = y' <;> by_cases hz : z = z' <;> simp [List.forIn_cons, ha, h1, hx, hy, hz, go_sem]
theorem eq3 (w : World) (P : Program) (e : TypeId) (he : P.underlying e = some (.int .i64)) (hz : ∀ w, (Go.sizeOf e).run P w = .ok 1 w) (ha : ∀ w, (isAgg e).run P w = .ok false w) (t : TypeId) (ht : P.underlying t = some (.array 3 e)) (x y z x' y' z' : Int) :
    (binOp .eql t (.agg #[.int .i64 x, .int .i64 y, .int .i64 z]) (.agg #[.int .i64 x', .int .i64 y', .int .i64 z'])).run P w = .ok (.bool (x == x' && (y == y' && z == z'))) w := by
  simp only [binOp]
  simp [Op.equal, Op.maxDepth, in3 w P e he hz ha 9998 t ht]
end Go.Proofs.Ytddoidcbpcmlaaa.ArrEq
