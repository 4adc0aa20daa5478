/- Plain facts: where the ends of chords lie, told of the center. -/
import Derived.Test.YtblonchpophnkaaMathH
import Derived.OpenShut
namespace Go.Proofs.Ytblonchpophnkaa.Pure
open Go.RowKit Go.Proofs.Ytblonchpophnkaa.F Go.Proofs.YtblonchpophnkaaW.PrintWords Go.Proofs.YtblonchpophnkaaW.PrintLast Go.Proofs.YtblonchpophnkaaW.PrintMore
set_option linter.unusedVariables false
set_option linter.unusedSimpArgs false
def sgn (kind : Int) : Int := if kind = 3 then -1 else 1
def turn (kind s j : Int) : Int := if kind = 3 then (s + 3*j) % 4 else (s + j) % 4
/-- the end of a chord, told of the center -/
def rel (s r n kind k j : Int) : Int × Int := rot (chX r n k) (sgn kind * chY r n k) (turn kind s j)

theorem arcAt_rel (s r n kind fz tz cx cy total : Int) (i : Nat) : arcAt s r n kind fz tz cx cy total i =
    ⟨cx + (rel s r n kind ((i:Int)%n+1) ((i:Int)/n)).1, cy + (rel s r n kind ((i:Int)%n+1) ((i:Int)/n)).2, fz + ((tz-fz)*((i:Int)+1))/total⟩ := by
  unfold arcAt rel sgn turn
  by_cases c : kind = 3
  · simp only [if_pos c]
    rw [show -1 * chY r n ((i:Int)%n+1) = -(chY r n ((i:Int)%n+1)) by omega]
  · simp only [if_neg c, Int.one_mul]


end Go.Proofs.Ytblonchpophnkaa.Pure
