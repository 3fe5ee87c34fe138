/-
 Closed facts of one row, one theorem each (one for all takes more memory than a build is given).
-/
import Derived.Test.YthdiiiopjkaifaaGreatDoorTie
import Derived.Test.YthdiiiopjkaifaaGreatDoorCards
import Derived.JoinedOf
open Go
namespace Go.Proofs.YthdiiiopjkaifaaGreatDoor.gateEscapes
set_option maxRecDepth 100000
theorem f_inPlace : Tryz.prog.inPlace 10 = Rows.gateEscapesRow.inPlace := by kernel_rfl
theorem f_unf : Tryz.prog.unfollowed 10 = Rows.gateEscapesRow.unfollowed := by kernel_rfl
theorem f_rec : Tryz.prog.recurses 10 = Rows.gateEscapesRow.recurses := by kernel_rfl
theorem f_named : Tryz.prog.varsNamed 10 = Rows.gateEscapesRow.named := by kernel_rfl
theorem f_laid : laidOutB Tryz.prog = true := by kernel_rfl
theorem f_maps : mapsRowed Tryz.prog = true := by kernel_rfl
theorem f_closed : joinedFacts Tryz.pinned.checked.prog 10 Tryz.f10 Rows.gateEscapesSpec Rows.gateEscapesRow = true := by
 unfold joinedFacts
 rw [show Tryz.pinned.checked.prog = Tryz.prog from rfl, f_inPlace, f_unf, f_rec, f_named, f_laid, f_maps]
 kernel_rfl
theorem f_goes : false = Rows.gateEscapesRow.goesBy Tryz.prog := by kernel_rfl
theorem f_looks : true = Tryz.prog.looks [] := by kernel_rfl
theorem f_wf : Rows.gateEscapesRow.wfByText (OpenSpec.ofChange Rows.gateEscapesSpec) = true := by kernel_rfl
end Go.Proofs.YthdiiiopjkaifaaGreatDoor.gateEscapes
