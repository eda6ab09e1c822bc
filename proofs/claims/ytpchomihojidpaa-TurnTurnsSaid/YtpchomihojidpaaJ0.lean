/- What a row asks of the program alone: each fact by itself, so that none takes much memory; the program's head is opened as a list of letters first. -/
import Derived.Test.YtpchomihojidpaaProg
import Derived.Test.YtpchomihojidpaaChecked
import Derived.JoinedOf
import Derived.KernelRfl
namespace Go.Proofs.Ytpchomihojidpaa.J0
open Go
theorem andT {a b : Bool} (h : a = true) (k : b = true) : (a && b) = true := by rw [h, k]; rfl
theorem laidOut : laidOutB Try.prog = true := by kernel_rfl
theorem mapsRowed_ok : mapsRowed Try.prog = true := by kernel_rfl
theorem stops_ok : (Try.prog.stops == []) = true := by kernel_rfl
theorem knobs_ok : (Try.prog.stopKnobs == []) = true := by kernel_rfl
theorem heard_ok : Try.prog.stopsHeard = true := by kernel_rfl
set_option maxRecDepth 100000 in
theorem enter_ok : Try.prog.mayEnter = true := by
  have h : Try.prog.initOrder.toList = _ := (congrArg String.toList (show Try.prog.initOrder = String.ofList _ from rfl)).trans String.toList_ofList
  rw [Program.mayEnter, h]
  refine (show (_ : Bool) = true from ?_)
  kernel_rfl
set_option maxRecDepth 100000 in
theorem make_ok : Try.prog.make = some .cut := by
  have h : Try.prog.initOrder.toList = _ := (congrArg String.toList (show Try.prog.initOrder = String.ofList _ from rfl)).trans String.toList_ofList
  rw [Program.make, h]
  refine (show (_ : Option Make) = some Make.cut from ?_)
  kernel_rfl
set_option maxRecDepth 100000 in
theorem final_ok : Try.prog.liftsFinal = false := by
  have h : Try.prog.initOrder.toList = _ := (congrArg String.toList (show Try.prog.initOrder = String.ofList _ from rfl)).trans String.toList_ofList
  rw [Program.liftsFinal, Program.headLifts, h]
  refine (show (_ : Bool) = false from ?_)
  kernel_rfl
end Go.Proofs.Ytpchomihojidpaa.J0
