/-
  Closed facts of the row, first part. No conditions.
-/
import Derived.Test.YtdachjbobngakaaGreatDoorCards
import Derived.WalkKit
import Derived.ProofKit
import Derived.OpenShut
import Derived.JoinedCond
namespace Go.Proofs.YtdachjbobngakaaGreatDoor.encodeRows
open Go
noncomputable abbrev P := Tryz.pinned.checked.prog
noncomputable abbrev fn := Tryz.f5
abbrev f : FuncId := 5
noncomputable abbrev s : ChangeSpec := (OpenSpec.ofChange Rows.encodeRowsSpec).bare
abbrev c : OpenClaim := Rows.encodeRowsRow
end Go.Proofs.YtdachjbobngakaaGreatDoor.encodeRows

namespace Go.Proofs.YtdachjbobngakaaGreatDoor.encodeRows
open Go
theorem jf0 : (c.wf (OpenSpec.ofChange s)) = true := by kernel_rfl
theorem jf1 : (laidOutB P) = true := by kernel_rfl
theorem jf2 : (mapsRowed P) = true := by kernel_rfl
end Go.Proofs.YtdachjbobngakaaGreatDoor.encodeRows

