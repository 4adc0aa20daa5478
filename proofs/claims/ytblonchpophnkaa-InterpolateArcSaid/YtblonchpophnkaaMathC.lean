/- The law InterpolateArc, told of numbers alone. -/
import Derived.Test.YtblonchpophnkaaMathR
import Derived.Test.YtblonchpophnkaaMathS
import Derived.Test.YtblonchpophnkaaMathF
import Derived.Test.YtblonchpophnkaaFx30
import Derived.OpenShut
namespace Go.Proofs.Ytblonchpophnkaa.Pure
open Go.RowKit Go.Proofs.Ytblonchpophnkaa.F Go.Proofs.YtblonchpophnkaaW.PrintWords Go.Proofs.YtblonchpophnkaaW.PrintLast Go.Proofs.YtblonchpophnkaaW.PrintMore
set_option linter.unusedVariables false
set_option linter.unusedSimpArgs false
theorem law_arc {fx fy fz kind tx ty tz cx cy rate : Int} (h1 : I64 fx) (h2 : I64 fy) (h2z : I64 fz) (h3 : I64 tx) (h4 : I64 ty) (h4z : I64 tz) (h5 : I64 cx) (h6 : I64 cy) :
    swarflaw33_InterpolateArc.f 7000 fx fy fz kind tx ty tz cx cy rate = some true := by
  unfold swarflaw33_InterpolateArc.f
  obtain ⟨b, e⟩ := few_one (kind := kind) (rate := rate) 7000 (by omega) h1 h2 h2z h3 h4 h4z h5 h6
  rw [awake_at 7000 (by omega), e]
  simp only [Option.bind_some, if_true]
  cases b with
  | false =>
    rw [swarflaw33_InterpolateArc.j0, if_pos (by rfl), awake_at _ (by omega)]; rfl
  | true =>
    rw [swarflaw33_InterpolateArc.j0, if_neg (by decide), Arc_f _ (by omega) h1 h2 h2z h3 h4 h4z h5 h6, rArc_f _ (by omega) h1 h2 h3 h4 h5 h6]
    simp only [Option.bind_some, if_true]
    have n := arcR_length (fx := fx) (fy := fy) (fz := fz) (kind := kind) (tx := tx) (ty := ty) (tz := tz) (cx := cx) (cy := cy) (rate := rate)
    rw [same_f (arcR fx fy fz kind tx ty tz cx cy rate).1 (by omega) 6999 (by omega)]; rfl


end Go.Proofs.Ytblonchpophnkaa.Pure
