/- Plain facts: wrapped numbers, valid limits, and the step of a smooth list. -/
import Derived.Test.YtdfilkofhgmakaaFx4
import Derived.Test.YtdfilkofhgmakaaFx21
import Derived.Test.YtdfilkofhgmakaaFx18
import Derived.OpenShut
namespace Go.Proofs.Ytdfilkofhgmakaa.Pure
open Go.RowKit Go.Proofs.Ytdfilkofhgmakaa.F Go.Proofs.YtdfilkofhgmakaaW.PrintWords Go.Proofs.YtdfilkofhgmakaaW.PrintLast Go.Proofs.YtdfilkofhgmakaaW.PrintMore
set_option linter.unusedVariables false
set_option linter.unusedSimpArgs false
theorem w64 {x : Int} (h1 : -9223372036854775808 ≤ x) (h2 : x ≤ 9223372036854775807) : wrap64 x = x := by
  unfold wrap64; omega
def I64 (x : Int) : Prop := -9223372036854775808 ≤ x ∧ x ≤ 9223372036854775807
def okL (S A J : Int) : Prop := 1 ≤ S ∧ S ≤ 100000 ∧ 1 ≤ A ∧ A ≤ 100000 ∧ 2 ≤ J ∧ J ≤ 100000
instance (S A J : Int) : Decidable (okL S A J) := by unfold okL; infer_instance
theorem within_f (a b c : Int) : profile_within.f a b c = some (decide (b ≤ a ∧ a ≤ c)) := by
  unfold profile_within.f
  by_cases h : b ≤ a
  · rw [if_pos h]; simp [h]
  · rw [if_neg h]; simp [h]
theorem rwithin_f (a b c : Int) : swarfref49_within.f a b c = some (decide (b ≤ a ∧ a ≤ c)) := by
  unfold swarfref49_within.f
  by_cases h : a ≥ b
  · rw [if_pos h]; simp; omega
  · rw [if_neg h]; simp; omega
theorem valid_f (S A J : Int) : profile_Valid.f S A J = some (if okL S A J then 0 else 1) := by
  unfold profile_Valid.f
  simp only [within_f, Option.bind_some, decide_eq_true_eq]
  by_cases a : 1 ≤ S ∧ S ≤ 100000
  · rw [if_pos a]
    by_cases b : 1 ≤ A ∧ A ≤ 100000
    · rw [if_pos b]
      by_cases c : 2 ≤ J ∧ J ≤ 100000
      · rw [if_pos c, if_pos (show okL S A J by unfold okL; omega)]
      · rw [if_neg c, if_neg (show ¬ okL S A J by unfold okL; omega)]
    · rw [if_neg b, if_neg (show ¬ okL S A J by unfold okL; omega)]
  · rw [if_neg a, if_neg (show ¬ okL S A J by unfold okL; omega)]
theorem rvalid_f (S A J : Int) : swarfref49_Valid.f S A J = some (if okL S A J then 0 else 1) := by
  unfold swarfref49_Valid.f
  simp only [rwithin_f, Option.bind_some, decide_eq_true_eq]
  by_cases a : 1 ≤ S ∧ S ≤ 100000
  · rw [if_pos a]
    by_cases b : 1 ≤ A ∧ A ≤ 100000
    · rw [if_pos b]
      by_cases c : 2 ≤ J ∧ J ≤ 100000
      · rw [if_pos c, if_pos (show okL S A J by unfold okL; omega)]
      · rw [if_neg c, if_neg (show ¬ okL S A J by unfold okL; omega)]
    · rw [if_neg b, if_neg (show ¬ okL S A J by unfold okL; omega)]
  · rw [if_neg a, if_neg (show ¬ okL S A J by unfold okL; omega)]

/-- one step of a smooth list: from speed v and acceleration a to the speed x -/
def okStep (S A J v a x : Int) : Prop := 0 ≤ x ∧ x ≤ S ∧ -A ≤ x - v ∧ x - v ≤ A ∧ -J ≤ x - v - a ∧ x - v - a ≤ J
instance (S A J v a x : Int) : Decidable (okStep S A J v a x) := by unfold okStep; infer_instance
def smo (S A J : Int) : Int → Int → List Int → Bool
  | v, a, [] => decide (okStep S A J v a 0) && decide (okStep S A J 0 (0-v) 0)
  | v, a, x :: xs => decide (okStep S A J v a x) && smo S A J x (x-v) xs


theorem awake100 : swarflaw49_awake.f 100 = some true := by decide +kernel
theorem awake_at (k : Nat) (hk : 100 ≤ k) : swarflaw49_awake.f k = some true := at_rounds swarflaw49_awake.mono hk awake100

end Go.Proofs.Ytdfilkofhgmakaa.Pure
