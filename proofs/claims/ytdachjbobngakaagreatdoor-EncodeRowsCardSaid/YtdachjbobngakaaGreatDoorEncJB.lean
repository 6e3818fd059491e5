/-
  Closed facts of the row, second part. No conditions.
-/
import Derived.Test.YtdachjbobngakaaGreatDoorCards
import Derived.WalkKit
import Derived.ProofKit
import Derived.OpenShut
import Derived.JoinedCond
import Derived.Test.YtdachjbobngakaaGreatDoorEncJA
namespace Go.Proofs.YtdachjbobngakaaGreatDoor.encodeRows
open Go
theorem jf3 : (fn.params.all (P.readableRec ·)) = true := by kernel_rfl
theorem jf4 : (namedTie P c.named s.vars) = true := by kernel_rfl
theorem jf5 : ((c.stops == [])) = true := by kernel_rfl
theorem jf6 : ((P.stops == [])) = true := by kernel_rfl
theorem jf7 : ((c.knobs == [])) = true := by kernel_rfl
theorem jf8 : ((P.stopKnobs == [])) = true := by kernel_rfl
theorem jf9 : ((c.inPlace == P.inPlace f)) = true := by kernel_rfl
theorem jf10 : ((c.unfollowed == P.unfollowed f)) = true := by kernel_rfl
theorem jf11 : ((c.recurses == P.recurses f)) = true := by kernel_rfl
end Go.Proofs.YtdachjbobngakaaGreatDoor.encodeRows

