/-
 Closed facts of one row, one theorem each (one for all takes more memory than a build is given).
-/
import Derived.Test.YthdiiiopjkaifaaGreatDoorTie
import Derived.Test.YthdiiiopjkaifaaGreatDoorCards
import Derived.JoinedOf
open Go
namespace Go.Proofs.YthdiiiopjkaifaaGreatDoor.gateDraws
set_option maxRecDepth 100000
theorem f_inPlace : Tryz.prog.inPlace 11 = Rows.gateDrawsRow.inPlace := by kernel_rfl
theorem f_unf : Tryz.prog.unfollowed 11 = Rows.gateDrawsRow.unfollowed := by kernel_rfl
theorem f_rec : Tryz.prog.recurses 11 = Rows.gateDrawsRow.recurses := by kernel_rfl
theorem f_named : Tryz.prog.varsNamed 11 = Rows.gateDrawsRow.named := by kernel_rfl
theorem f_laid : laidOutB Tryz.prog = true := by kernel_rfl
theorem f_maps : mapsRowed Tryz.prog = true := by kernel_rfl
theorem f_closed : joinedFacts Tryz.pinned.checked.prog 11 Tryz.f11 Rows.gateDrawsSpec Rows.gateDrawsRow = true := by
 unfold joinedFacts
 rw [show Tryz.pinned.checked.prog = Tryz.prog from rfl, f_inPlace, f_unf, f_rec, f_named, f_laid, f_maps]
 kernel_rfl
theorem f_goes : false = Rows.gateDrawsRow.goesBy Tryz.prog := by kernel_rfl
theorem f_looks : true = Tryz.prog.looks [] := by kernel_rfl
theorem f_wf : Rows.gateDrawsRow.wfByText (OpenSpec.ofChange Rows.gateDrawsSpec) = true := by kernel_rfl
end Go.Proofs.YthdiiiopjkaifaaGreatDoor.gateDraws
