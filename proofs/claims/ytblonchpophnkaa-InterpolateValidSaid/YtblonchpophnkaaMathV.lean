/- The law InterpolateValid, told of numbers alone. -/
import Derived.Test.YtblonchpophnkaaMathA
import Derived.Test.YtblonchpophnkaaFx21
import Derived.OpenShut
namespace Go.Proofs.Ytblonchpophnkaa.Pure
open Go.RowKit Go.Proofs.Ytblonchpophnkaa.F Go.Proofs.YtblonchpophnkaaW.PrintWords Go.Proofs.YtblonchpophnkaaW.PrintLast Go.Proofs.YtblonchpophnkaaW.PrintMore
set_option linter.unusedVariables false
set_option linter.unusedSimpArgs false
theorem law_valid {fx fy fz kind tx ty tz cx cy rate : Int} (h1 : I64 fx) (h2 : I64 fy) (h2z : I64 fz) (h3 : I64 tx) (h4 : I64 ty) (h4z : I64 tz) (h5 : I64 cx) (h6 : I64 cy) :
    swarflaw33_InterpolateValid.f 6000 fx fy fz kind tx ty tz cx cy rate = some true := by
  unfold swarflaw33_InterpolateValid.f
  rw [awake_at 6000 (by omega), quarters_f 6000 (by omega) h1 h2 h2z h3 h4 h4z h5 h6, rquarters_f 6000 (by omega) h1 h2 h3 h4 h5 h6, valid_f 6000 (by omega) h1 h2 h2z h3 h4 h4z h5 h6, rvalid_f 6000 (by omega) h1 h2 h3 h4 h5 h6]
  simp


end Go.Proofs.Ytblonchpophnkaa.Pure
