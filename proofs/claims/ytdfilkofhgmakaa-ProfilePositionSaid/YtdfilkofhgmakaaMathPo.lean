/- The law ProfilePosition, told of numbers alone. -/
import Derived.Test.YtdfilkofhgmakaaMathP
import Derived.Test.YtdfilkofhgmakaaFx37
import Derived.OpenShut
namespace Go.Proofs.Ytdfilkofhgmakaa.Pure
open Go.RowKit Go.Proofs.Ytdfilkofhgmakaa.F Go.Proofs.YtdfilkofhgmakaaW.PrintWords Go.Proofs.YtdfilkofhgmakaaW.PrintLast Go.Proofs.YtdfilkofhgmakaaW.PrintMore
set_option linter.unusedVariables false
set_option linter.unusedSimpArgs false
theorem law_position (ax ay az bx by_ bz n0 n1 : Int) : ∃ k, swarflaw49_ProfilePosition.f k ax ay az bx by_ bz n0 n1 = some true := by
  refine ⟨200, ?_⟩
  obtain ⟨x, y, z, e, h⟩ := posS_some ax ay az bx by_ bz n0 n1
  unfold swarflaw49_ProfilePosition.f profile_Position.f
  rw [awake_at 200 (by omega), rpos_f _ _ _ _ _ _ _ _ 200 (by omega), h]
  simp


end Go.Proofs.Ytdfilkofhgmakaa.Pure
