/- A plain fact: the difference of two speeds is not wrapped. -/
import Derived.Test.YtdfilkofhgmakaaMathB
import Derived.OpenShut
namespace Go.Proofs.Ytdfilkofhgmakaa.Pure
open Go.RowKit Go.Proofs.Ytdfilkofhgmakaa.F Go.Proofs.YtdfilkofhgmakaaW.PrintWords Go.Proofs.YtdfilkofhgmakaaW.PrintLast Go.Proofs.YtdfilkofhgmakaaW.PrintMore
set_option linter.unusedVariables false
set_option linter.unusedSimpArgs false
theorem mov_b {S A J b l : Int} (m : movS S A J b l) : wrap64 (l - b) = l - b := by
  obtain ⟨o, c1, c2, -⟩ := m
  unfold okL at o
  exact w64 (by omega) (by omega)


end Go.Proofs.Ytdfilkofhgmakaa.Pure
