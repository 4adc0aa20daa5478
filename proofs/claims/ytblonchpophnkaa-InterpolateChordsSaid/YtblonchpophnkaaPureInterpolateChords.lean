/- The law InterpolateChords, told of numbers alone: Chords finds the least n with 10 n^2 at least the radius. -/
import Derived.Test.YtblonchpophnkaaMathO
import Derived.Test.YtblonchpophnkaaFx22
import Derived.OpenShut
namespace Go.Proofs.Ytblonchpophnkaa.Pure
open Go.RowKit Go.Proofs.Ytblonchpophnkaa.F Go.Proofs.YtblonchpophnkaaW.PrintWords Go.Proofs.YtblonchpophnkaaW.PrintLast Go.Proofs.YtblonchpophnkaaW.PrintMore
set_option linter.unusedVariables false
set_option linter.unusedSimpArgs false
theorem InterpolateChords : swarflaw33_InterpolateChords.Pure := by
  intro a hw
  refine ⟨101, ?_⟩
  unfold swarflaw33_InterpolateChords.f
  rw [awake_at 101 (by omega)]; simp only [Option.bind_some, if_true]
  by_cases hb : a > 1099511627776
  · simp only [swarflaw33_InterpolateChords.j0, hb, decide_true, if_true, awake_at 100 (by omega), Option.bind_some]
  · simp only [swarflaw33_InterpolateChords.j0, hb, decide_false, Bool.false_eq_true, if_false]
    by_cases h0 : a ≤ 0
    · unfold interpolate_Chords.f
      rw [if_pos h0]; simp only [Option.bind_some]; rw [if_pos h0]; rfl
    · obtain ⟨n, e, h1, h2, h3, h4⟩ := chords_f a 100 (by omega) (by omega) (by omega)
      have s1 := sq_le (a := n) (b := 33554432) (by omega) (by omega)
      have s0 : 0 ≤ n*n := Int.mul_nonneg (by omega) (by omega)
      have t1 := sq_le (a := n-1) (b := 33554432) (by omega) (by omega)
      have t0 : 0 ≤ (n-1)*(n-1) := Int.mul_nonneg (by omega) (by omega)
      have w1 : wrap64 (10*n) = 10*n := w64 (by omega) (by omega)
      have w2 : wrap64 (10*n*n) = 10*(n*n) := by rw [Int.mul_assoc]; exact w64 (by omega) (by omega)
      have w3 : wrap64 (n-1) = n-1 := w64 (by omega) (by omega)
      have w4 : wrap64 (10*(n-1)) = 10*(n-1) := w64 (by omega) (by omega)
      have w5 : wrap64 (10*(n-1)*(n-1)) = 10*((n-1)*(n-1)) := by rw [Int.mul_assoc]; exact w64 (by omega) (by omega)
      rw [e]; simp only [Option.bind_some]
      rw [if_neg h0, if_pos h1, if_pos h2, w1, w2, if_pos h3]
      by_cases hn : n = 1
      · rw [if_pos hn]
      · rw [if_neg hn, w3, w4, w5]
        rcases h4 with h4 | h4
        · exact absurd h4 hn
        · simp [h4]

end Go.Proofs.Ytblonchpophnkaa.Pure
