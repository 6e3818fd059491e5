/-
  Closed facts of the row, fourth part. No conditions.
-/
import Derived.Test.YtdachjbobngakaaGreatDoorCards
import Derived.WalkKit
import Derived.ProofKit
import Derived.OpenShut
import Derived.JoinedCond
import Derived.Test.YtdachjbobngakaaGreatDoorEncJA
namespace Go.Proofs.YtdachjbobngakaaGreatDoor.encodeRows
open Go
theorem jf15 : ((c.mapsOut == P.mapsAmong fn.resultTypes.toList)) = true := by kernel_rfl
theorem jf16 : ((c.loops == (fn.params.toList ++ s.plain.varTypes P).any (P.loopsFrom ·))) = true := by kernel_rfl
theorem jf17 : ((c.wideKeys == (fn.params.toList ++ s.plain.varTypes P ++ fn.resultTypes.toList).any (P.wideKeysFrom ·))) = true := by kernel_rfl
theorem jf18 : (s.vars.all (P.varReadable ·)) = true := by kernel_rfl
end Go.Proofs.YtdachjbobngakaaGreatDoor.encodeRows

