/- What the listed package variables give a walk: the table of blanks; and a world that meets the condition: the door's own run. -/
import Derived.Test.YtmgbidehdnmjkaaDoorRows
import Derived.LaidMore
import Derived.Stop.Joined
import Derived.Stop.LaidErr
import Derived.ProofKit
import Derived.Lib.LaidTab
import Derived.Lib.Space
import Derived.Lib.SmallJoins
namespace Go.Proofs.YtmgbidehdnmjkaaDoor.Door
open Go Go.ChangeShapes Go.WideShapes Go.ChangeAt Go.RowKit
/-- What a walk asks of the world in which the call begins. -/
def Laid (W : World) : Prop := Lib.TabIs Tryd.prog W "strings.asciiSpace" .u8 Lib.asciiSpaceTab
theorem gT : Tryd.prog.globalNamed "strings.asciiSpace" = some 0 := by kernel_rfl
theorem gTType : (Tryd.prog.globals[0]?).map (·.type) = some 72 := by kernel_rfl
theorem cells5 : Tryd.prog.cellsOf 5 = 1 := by kernel_rfl
theorem cellsT : Tryd.prog.cellsOf 72 = 256 := by kernel_rfl
theorem datum : (Rows.laid_strings_asciiSpace : DataW Unit) = Lib.tabData .u8 Lib.asciiSpaceTab := by kernel_rfl
abbrev laidL : List (String × DataW Unit) := [("unicode.White_Space", Rows.laid_unicode_White_Space), ("strings.asciiSpace", Rows.laid_strings_asciiSpace)]
theorem door_met (os : Os) (args : Array Value) : laidMetH Tryd.prog laidL ((World.doorLaid Tryd.prog 33 os).forCall (fun _ _ => 0) ⟨#[], args, []⟩).memory :=
  laidMetH_of_parts3 (fuel := 8) (laidMet_of_run' 8 (by kernel_rfl) (by kernel_rfl)) (by kernel_rfl) (by kernel_rfl)
theorem of_laid {W : World} (h : laidMetH Tryd.prog laidL W) : Laid W := by
  rw [MakeChecks.laidMetH_plain _ _ _ (by kernel_rfl)] at h
  have h1 := h.tail
  rw [datum] at h1
  exact Lib.tabIs_of_head gT gTType Tryd.underlying72 Tryd.underlying5 cells5 cellsT h1
end Go.Proofs.YtmgbidehdnmjkaaDoor.Door
