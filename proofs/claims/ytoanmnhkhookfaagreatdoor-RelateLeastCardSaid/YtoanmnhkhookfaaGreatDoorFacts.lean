/- The closed facts of the program as a whole that every row of the round asks for, each by itself; conditions: none. -/
import Derived.Test.YtoanmnhkhookfaaGreatDoorLaid
import Derived.JoinedOf
namespace Go.Proofs.YtoanmnhkhookfaaGreatDoor
open Go.ChangeShapes Go.WideShapes Go.ChangeAt Go.RowKit
theorem whole_laidOut : laidOutB Tryz.prog = true := by kernel_rfl
theorem whole_mapsRowed : mapsRowed Tryz.prog = true := by kernel_rfl
theorem whole_stops : (Tryz.prog.stops == []) = true := by kernel_rfl
theorem whole_knobs : (Tryz.prog.stopKnobs == []) = true := by kernel_rfl
theorem whole_heard : Tryz.prog.stopsHeard = true := by kernel_rfl
theorem whole_plainKeys : (Rows.relateTextsRow.plainKeys == Tryz.prog.plainKeys) = true := by kernel_rfl
theorem whole_enters : Tryz.prog.mayEnter = true := by kernel_rfl
theorem whole_lifted : (Rows.relateTextsRow.lifted == Tryz.prog.liftsFinal) = true := by kernel_rfl
theorem whole_make : (Tryz.prog.make == some Rows.relateTextsRow.make) = true := by kernel_rfl
theorem true_and' {a b : Bool} (h : a = true) (h' : b = true) : (a && b) = true := by rw [h, h']; rfl
end Go.Proofs.YtoanmnhkhookfaaGreatDoor
