/- The law ProfileValid, told of numbers alone. -/
import Derived.Test.YtdfilkofhgmakaaMathA
import Derived.Test.YtdfilkofhgmakaaFx6
import Derived.Test.YtdfilkofhgmakaaFx22
import Derived.Test.YtdfilkofhgmakaaFx23
import Derived.OpenShut
namespace Go.Proofs.Ytdfilkofhgmakaa.Pure
open Go.RowKit Go.Proofs.Ytdfilkofhgmakaa.F Go.Proofs.YtdfilkofhgmakaaW.PrintWords Go.Proofs.YtdfilkofhgmakaaW.PrintLast Go.Proofs.YtdfilkofhgmakaaW.PrintMore
set_option linter.unusedVariables false
set_option linter.unusedSimpArgs false
/-- the distance of the simple method -/
def simU (S A J : Int) : Int := mn (mn S A) (wrap64 (Int.tdiv J 2))
theorem simU_ok {S A J : Int} (h : okL S A J) : 1 ≤ simU S A J ∧ simU S A J ≤ S ∧ simU S A J ≤ A ∧ 2 * simU S A J ≤ J := by
  unfold okL at h
  unfold simU
  rw [Int.tdiv_eq_ediv_of_nonneg (by omega), w64 (by omega) (by omega)]
  unfold mn
  split <;> split <;> omega
def ticksS (n S A J : Int) : Int × Int :=
  if okL S A J ∧ 0 ≤ n then (if n > 1000000000000 then (0, 3) else ((n + simU S A J - 1) / simU S A J, 0)) else (0, 1)
theorem ticks_j0 (n S A J : Int) (b : Bool) (k : Nat) : swarfref49_Ticks.j0 k n b S A J = profile_Ticks.j0 k n b S A J := by
  cases k with
  | zero => rfl
  | succ k => simp only [swarfref49_Ticks.j0, profile_Ticks.j0, profile_Limits_simple.f, Option.bind_some]
theorem rticks_f (n S A J : Int) (k : Nat) : swarfref49_Ticks.f k n S A J = profile_Ticks.f k n S A J := by
  unfold swarfref49_Ticks.f profile_Ticks.f
  rw [valid_f, rvalid_f]
  simp only [Option.bind_some, ticks_j0]
theorem ticks_f (n S A J : Int) (k : Nat) (hk : 1 ≤ k) : profile_Ticks.f k n S A J = some (ticksS n S A J) := by
  obtain ⟨k, rfl⟩ : ∃ m, k = m + 1 := ⟨k - 1, by omega⟩
  unfold profile_Ticks.f ticksS
  rw [valid_f]
  simp only [Option.bind_some]
  by_cases o : okL S A J
  · rw [if_pos o, if_pos rfl, profile_Ticks.j0]
    by_cases c : n < 0
    · rw [if_pos (by simpa using c), if_neg (by omega)]
    · rw [if_neg (by simpa using c), if_pos (show okL S A J ∧ 0 ≤ n from ⟨o, by omega⟩)]
      by_cases d : n > 1000000000000
      · rw [if_pos d, if_pos d]
      · have u := simU_ok o
        rw [if_neg d, if_neg d]
        unfold profile_Limits_simple.f
        simp only [Option.bind_some]
        rw [show mn (mn S A) (wrap64 (Int.tdiv J 2)) = simU S A J from rfl]
        unfold okL at o
        have q := Int.ediv_le_self (simU S A J) (show 0 ≤ n + simU S A J - 1 by omega)
        have q0 := Int.ediv_nonneg (show 0 ≤ n + simU S A J - 1 by omega) (show 0 ≤ simU S A J by omega)
        rw [if_neg (by omega), w64 (x := n + simU S A J) (by omega) (by omega), w64 (x := n + simU S A J - 1) (by omega) (by omega), Int.tdiv_eq_ediv_of_nonneg (by omega), w64 (by omega) (by omega)]
  · rw [if_neg o, if_neg (by omega), profile_Ticks.j0, if_pos rfl, if_neg (by simp [o])]
theorem law_valid (n S A J : Int) : ∃ k, swarflaw49_ProfileValid.f k n S A J = some true := by
  refine ⟨200, ?_⟩
  unfold swarflaw49_ProfileValid.f swarflaw49_theirs.f
  rw [awake_at 200 (by omega), rticks_f, rvalid_f]
  simp only [Option.bind_some, if_true, valid_f, ticks_f n S A J 200 (by omega)]
  simp


end Go.Proofs.Ytdfilkofhgmakaa.Pure
