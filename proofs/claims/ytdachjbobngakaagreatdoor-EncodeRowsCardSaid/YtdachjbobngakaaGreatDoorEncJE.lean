/-
  Closed facts of the row, fifth part. No conditions.
-/
import Derived.Test.YtdachjbobngakaaGreatDoorCards
import Derived.WalkKit
import Derived.ProofKit
import Derived.OpenShut
import Derived.JoinedCond
import Derived.Test.YtdachjbobngakaaGreatDoorEncJA
import Derived.Test.YtdachjbobngakaaGreatDoorEncJB
import Derived.Test.YtdachjbobngakaaGreatDoorEncJC
import Derived.Test.YtdachjbobngakaaGreatDoorEncJD
namespace Go.Proofs.YtdachjbobngakaaGreatDoor.encodeRows
open Go
theorem jf19 : (fn.resultTypes.all (fun t => P.readableRec t && decide (t < P.types.size))) = true := by kernel_rfl
theorem jf20 : ((c.ifacesOut == fn.resultTypes.toList.any (P.ifacesRec ·))) = true := by kernel_rfl
theorem jf21 : ((c.loopsOut == fn.resultTypes.toList.any (P.loopsFrom ·))) = true := by kernel_rfl
theorem jf22 : ((c.plainKeys == P.plainKeys)) = true := by kernel_rfl
theorem jf23 : (c.shortTexts.isNone) = true := by kernel_rfl
theorem jf24 : (P.stopsHeard) = true := by kernel_rfl
theorem jf25 : (P.mayEnter) = true := by kernel_rfl
theorem jf26 : ((c.lifted == P.liftsFinal)) = true := by kernel_rfl
theorem jf27 : ((P.make == some c.make)) = true := by kernel_rfl
theorem jf28 : ((c.kinds == (if c.domain.isEmpty then [] else fn.params.toList.map fun t => match P.underlying t with | some (.int k) => some k | _ => none))) = true := by kernel_rfl
theorem jf29 : ((c.pinned == c.pinnedBy)) = true := by kernel_rfl
theorem jf30 : ((c.veiled == (fn.params.toList ++ s.plain.varTypes P ++ fn.resultTypes.toList).any (P.veiledRec ·))) = true := by kernel_rfl
theorem jf31 : (c.veiledFits P fn.params.toList (fn.params.toList ++ s.plain.varTypes P ++ fn.resultTypes.toList)) = true := by kernel_rfl
end Go.Proofs.YtdachjbobngakaaGreatDoor.encodeRows

namespace Go.Proofs.YtdachjbobngakaaGreatDoor.encodeRows
open Go
theorem and_tt {a b : Bool} (h : a = true) (h' : b = true) : (a && b) = true := by rw [h, h']; rfl
set_option maxRecDepth 100000 in
theorem closed : joinedFacts Tryz.pinned.checked.prog 5 Tryz.f5 (OpenSpec.ofChange Rows.encodeRowsSpec).bare Rows.encodeRowsRow = true := by
  unfold joinedFacts
  exact and_tt (and_tt (and_tt (and_tt (and_tt (and_tt (and_tt (and_tt (and_tt (and_tt (and_tt (and_tt (and_tt (and_tt (and_tt (and_tt (and_tt (and_tt (and_tt (and_tt (and_tt (and_tt (and_tt (and_tt (and_tt (and_tt (and_tt (and_tt (and_tt (and_tt (and_tt jf0 jf1) jf2) jf3) jf4) jf5) jf6) jf7) jf8) jf9) jf10) jf11) jf12) jf13) jf14) jf15) jf16) jf17) jf18) jf19) jf20) jf21) jf22) jf23) jf24) jf25) jf26) jf27) jf28) jf29) jf30) jf31
end Go.Proofs.YtdachjbobngakaaGreatDoor.encodeRows

