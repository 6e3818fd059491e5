/-
  Closed facts of the row, third part. No conditions.
-/
import Derived.Test.YtdachjbobngakaaGreatDoorCards
import Derived.WalkKit
import Derived.ProofKit
import Derived.OpenShut
import Derived.JoinedCond
import Derived.Test.YtdachjbobngakaaGreatDoorEncJA
namespace Go.Proofs.YtdachjbobngakaaGreatDoor.encodeRows
open Go
theorem jf12 : ((c.named == P.varsNamed f)) = true := by kernel_rfl
theorem jf13 : ((c.maps == (fn.params.toList ++ s.plain.varTypes P).any (P.mapsRec ·))) = true := by kernel_rfl
theorem jf14 : ((c.ifaces == (fn.params.toList ++ s.plain.varTypes P).any (P.ifacesRec ·))) = true := by kernel_rfl
end Go.Proofs.YtdachjbobngakaaGreatDoor.encodeRows

