/- The law InterpolatePositions, told of numbers alone. -/
import Derived.Test.YtblonchpophnkaaMathP
import Derived.Test.YtblonchpophnkaaFp33
import Derived.OpenShut
namespace Go.Proofs.Ytblonchpophnkaa.Pure
open Go.RowKit Go.Proofs.Ytblonchpophnkaa.F Go.Proofs.YtblonchpophnkaaW.PrintWords Go.Proofs.YtblonchpophnkaaW.PrintLast Go.Proofs.YtblonchpophnkaaW.PrintMore
set_option linter.unusedVariables false
set_option linter.unusedSimpArgs false
theorem law_positions (l : List S27) (hl : ∀ m ∈ l, Move64 m) (x y z : Int) (x1 : I64 x) (y1 : I64 y) (z1 : I64 z) : swarflaw33_InterpolatePositions.f 60000 x y z l = some true := by
  unfold swarflaw33_InterpolatePositions.f
  obtain ⟨b, e, hb⟩ := few_f l hl 12 (by omega) x y z x1 y1 z1 60000 (by omega)
  rw [awake_at 60000 (by omega)]
  simp only [Option.bind_some, if_true]
  rw [e]
  simp only [Option.bind_some]
  rw [show (60000 : Nat) = 59999 + 1 from rfl, swarflaw33_InterpolatePositions.j0]
  cases b with
  | false => rw [if_pos (by rfl), awake_at _ (by omega)]; rfl
  | true =>
    have hn := hb rfl
    obtain ⟨res, e, p1, p2, p3⟩ := pos_f l hl (by omega) 59999 (by omega) x y z x1 y1 z1
    obtain ⟨p, q1, q2⟩ := end_f x y z l (by omega)
    rw [if_neg (by decide)]
    simp only [Option.bind_some, List.length_nil, List.nil_append]
    rw [if_pos (by omega), p1, p2]
    simp only [Option.bind_some, if_true]
    rw [same_f res (by omega) 59999 (by omega)]
    simp only [Option.bind_some, if_true]
    rw [q1, q2]
    simp

end Go.Proofs.Ytblonchpophnkaa.Pure
