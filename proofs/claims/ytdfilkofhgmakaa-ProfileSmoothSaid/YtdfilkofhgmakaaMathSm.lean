/- The law ProfileSmooth, told of numbers alone. -/
import Derived.Test.YtdfilkofhgmakaaMathS
import Derived.Test.YtdfilkofhgmakaaFx7
import Derived.Test.YtdfilkofhgmakaaFx25
import Derived.OpenShut
namespace Go.Proofs.Ytdfilkofhgmakaa.Pure
open Go.RowKit Go.Proofs.Ytdfilkofhgmakaa.F Go.Proofs.YtdfilkofhgmakaaW.PrintWords Go.Proofs.YtdfilkofhgmakaaW.PrintLast Go.Proofs.YtdfilkofhgmakaaW.PrintMore
set_option linter.unusedVariables false
set_option linter.unusedSimpArgs false
theorem smooth_eq (L : List Int) (S A J : Int) (k : Nat) : ∀ i v a, profile_Smooth.l0 k L (wrap64 ((L.length : Int) + 2)) i S A J v a = swarfref49_Smooth.l0 k L v a i S A J ∧
    ∀ x, profile_Smooth.j1 k L x (wrap64 ((L.length : Int) + 2)) i S A J v a = swarfref49_Smooth.j1 k L v a i x S A J := by
  induction k with
  | zero => intro i v a; exact ⟨rfl, fun _ => rfl⟩
  | succ k ih =>
    intro i v a
    constructor
    · simp only [profile_Smooth.l0, swarfref49_Smooth.l0, (ih _ _ _).2]
    · intro x
      simp only [profile_Smooth.j1, swarfref49_Smooth.j1, within_f, rwithin_f, (ih _ _ _).1]
theorem rsmooth_f (L : List Int) (S A J : Int) (k : Nat) : profile_Smooth.f k L S A J = swarfref49_Smooth.f k L S A J := by
  unfold profile_Smooth.f swarfref49_Smooth.f
  rw [valid_f, rvalid_f]
  simp only [Option.bind_some, (smooth_eq L S A J k _ _ _).1]

theorem law_smooth (L : List Int) (S A J : Int) : ∃ k, swarflaw49_ProfileSmooth.f k L S A J = some true := by
  refine ⟨400, ?_⟩
  unfold swarflaw49_ProfileSmooth.f
  rw [awake_at 400 (by omega)]
  simp only [Option.bind_some, if_true]
  by_cases c : (L.length : Int) > 60
  · rw [decide_eq_true c, swarflaw49_ProfileSmooth.j0, if_pos rfl, awake_at _ (by omega)]; rfl
  · rw [decide_eq_false c, swarflaw49_ProfileSmooth.j0, if_neg (by decide)]
    simp only [Option.bind_some, List.length_nil, swarflaw49_theirs.f, List.nil_append, rsmooth_f]
    rw [if_pos (by omega), smooth_f L S A J (by omega) _ (by omega)]
    simp


end Go.Proofs.Ytdfilkofhgmakaa.Pure
