/- Each record of a shelf, told in words as a deal that sets it up under its key, is told as the document tells it; read back and done one behind the other on an empty shelf of the same room, these deals give the same shelf. Conditions: none beyond the row's own. -/
import Derived.Test.YtblabgjppapdpaaGreatDoorWholeToldC6
namespace Go.Proofs.YtblabgjppapdpaaGreatDoor
theorem wholeTold_holds : Rows.WholeToldCardSaid := Go.CL.WholeTold_card
end Go.Proofs.YtblabgjppapdpaaGreatDoor
