/- How two rectangles are held against each other. -/
import Derived.Test.YtpchomihojidpaaTy
import Derived.Test.YtpchomihojidpaaSlD
import Derived.KernelRfl
namespace Go.Proofs.Ytpchomihojidpaa
open Go.SL
theorem eqg58 : Try.prog.eqGuardType Try.prog.depth 58 = false := by kernel_rfl
theorem eqt58 : Try.prog.underlying 58 = some (.struct (Try.prog.fieldsOf 58)) := by kernel_rfl
theorem eqp58 : Try.prog.stoodInHeld 58 = false := by kernel_rfl
theorem eqRect (a b c d p q r s : Int) (w : World) : (Op.eqFields 9999 #[.int .i64 a, .int .i64 b, .int .i64 c, .int .i64 d] #[.int .i64 p, .int .i64 q, .int .i64 r, .int .i64 s] (Try.prog.fieldsOf 58).toList).run Try.prog w = .ok (decide (a = p ∧ b = q ∧ c = r ∧ d = s)) w := by
  have u := Try.underlying2
  have a2 := Try.isAgg2
  have z2 := Try.sizeOf2
  simp only [Program.fieldsOf, Try.underlying58]
  go_simp
  by_cases h1 : a = p <;> by_cases h2 : b = q <;> by_cases h3 : c = r <;> by_cases h4 : d = s <;> simp [h1, h2, h3, h4]
theorem fun171 : funB Try.prog 171 = true := by kernel_rfl
end Go.Proofs.Ytpchomihojidpaa
