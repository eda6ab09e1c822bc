/- How two cells, and two rectangles, are held against each other; an array of two numbers. -/
import Derived.Test.YtpchomihojidpaaTy
import Derived.Test.YtpchomihojidpaaSlC
import Derived.KernelRfl
namespace Go.Proofs.Ytpchomihojidpaa
open Go.SL
theorem eqg46 : Try.prog.eqGuardType Try.prog.depth 46 = false := by kernel_rfl
theorem eqt46 : Try.prog.underlying 46 = some (.struct (Try.prog.fieldsOf 46)) := by kernel_rfl
theorem eqp46 : Try.prog.stoodInHeld 46 = false := by kernel_rfl
theorem eqCell (a b c d : Int) (w : World) : (Op.eqFields 9999 #[.int .i64 a, .int .i64 b] #[.int .i64 c, .int .i64 d] (Try.prog.fieldsOf 46).toList).run Try.prog w = .ok (decide (a = c ∧ b = d)) w := by
  have u := Try.underlying2
  have a2 := Try.isAgg2
  have z2 := Try.sizeOf2
  simp only [Program.fieldsOf, Try.underlying46]
  go_simp
  by_cases h1 : a = c <;> by_cases h2 : b = d <;> simp [h1, h2]
theorem build176 (a b : Int) (w : World) : (Instr.build 176 #[(0, .int .i64 a), (1, .int .i64 b)]).run Try.prog w = .ok (.agg #[.int .i64 a, .int .i64 b]) w := run_build w 176 _ _ (by kernel_rfl)
theorem index176 (a b : Int) (i : Nat) (hi : i < 2) (w : World) : (Instr.index 176 (.agg #[.int .i64 a, .int .i64 b]) (.int .i64 (i : Int))).run Try.prog w = .ok (.int .i64 (if i = 0 then a else b)) w := by
  have a2 := Try.isAgg2
  have z2 := Try.sizeOf2
  match i, hi with
  | 0, _ => simp [Instr.index, asIntOf, run_und Try.underlying176, part, a2, z2]
  | 1, _ => simp [Instr.index, asIntOf, run_und Try.underlying176, part, a2, z2]
end Go.Proofs.Ytpchomihojidpaa
