-- The machine side of a proof, written by a program of the session out of Lean's print of the loaded functions. Lean checks it.
import Derived.Test.YtdfilkofhgmakaaFx0
namespace Go.Proofs.Ytdfilkofhgmakaa.F
open Go.RowKit Go.Proofs.YtdfilkofhgmakaaW.PrintWords Go.Proofs.YtdfilkofhgmakaaW.PrintLast Go.Proofs.YtdfilkofhgmakaaW.PrintMore
attribute [local go_sem] max2_int min2_int max_two min_two max_three min_three max_four min_four   -- for this text's walks alone
set_option linter.unusedVariables false
set_option linter.unusedSimpArgs false
def swarfref49_between.f (a0 : Int) (a1 : Int) (a2 : Int) (a3 : Int) : Option (Int) := if (wrap64 (2 * a3)) = 0 then (none) else (if (Int.tmod (wrap64 ((wrap64 ((wrap64 (2 * (wrap64 (a1 - a0)))) * a2)) + a3)) (wrap64 (2 * a3))) < 0 then (some (wrap64 (a0 + (wrap64 ((wrap64 (Int.tdiv (wrap64 ((wrap64 ((wrap64 (2 * (wrap64 (a1 - a0)))) * a2)) + a3)) (wrap64 (2 * a3)))) - 1))))) else (some (wrap64 (a0 + (wrap64 (Int.tdiv (wrap64 ((wrap64 ((wrap64 (2 * (wrap64 (a1 - a0)))) * a2)) + a3)) (wrap64 (2 * a3))))))))
set_option maxHeartbeats 8000000 in
set_option maxRecDepth 100000 in
theorem swarfref49_between.calls (a0 : Int) (a1 : Int) (a2 : Int) (a3 : Int) (r : Int) (w : World) (h : swarfref49_between.f a0 a1 a2 a3 = some r) :
  Calls Try.prog 41 #[.int .i64 a0, .int .i64 a1, .int .i64 a2, .int .i64 a3] w fun e w' => e = .returned (.int .i64 r) ∧ Drawn0 w w' := by
 have H : (if (wrap64 (2 * a3)) = 0 then (none) else (if (Int.tmod (wrap64 ((wrap64 ((wrap64 (2 * (wrap64 (a1 - a0)))) * a2)) + a3)) (wrap64 (2 * a3))) < 0 then (some (wrap64 (a0 + (wrap64 ((wrap64 (Int.tdiv (wrap64 ((wrap64 ((wrap64 (2 * (wrap64 (a1 - a0)))) * a2)) + a3)) (wrap64 (2 * a3)))) - 1))))) else (some (wrap64 (a0 + (wrap64 (Int.tdiv (wrap64 ((wrap64 ((wrap64 (2 * (wrap64 (a1 - a0)))) * a2)) + a3)) (wrap64 (2 * a3))))))))) = some r := h
 clear h
 by_cases c5 : (wrap64 (2 * a3)) = 0
 ·rw [if_pos c5] at H
  exact absurd H (by simp)
 ·rw [if_neg c5] at H
  have c5b0 : ((wrap64 (2 * a3)) == 0) = false := beq_eq_false_iff_ne.mpr c5
  have c5b1 : ((wrap64 (2 * a3)) != 0) = true := bne_iff_ne.mpr c5
  by_cases c6 : (Int.tmod (wrap64 ((wrap64 ((wrap64 (2 * (wrap64 (a1 - a0)))) * a2)) + a3)) (wrap64 (2 * a3))) < 0
  ·rw [if_pos c6] at H
   have c6b0 : decide ((Int.tmod (wrap64 ((wrap64 ((wrap64 (2 * (wrap64 (a1 - a0)))) * a2)) + a3)) (wrap64 (2 * a3))) < 0) = true := decide_eq_true c6
   clear c6
   obtain rfl := Option.some.inj H
   go_enter Try.func41, Try.ntmps41
   go_wp2
   go_ret
   exact ⟨by first | rfl | (simp; done) | (simp [*]; done), by repeat (first | exact Drawn0.refl _ | apply Drawn0.step)⟩
  ·rw [if_neg c6] at H
   have c6b0 : decide ((Int.tmod (wrap64 ((wrap64 ((wrap64 (2 * (wrap64 (a1 - a0)))) * a2)) + a3)) (wrap64 (2 * a3))) < 0) = false := decide_eq_false c6
   clear c6
   obtain rfl := Option.some.inj H
   go_enter Try.func41, Try.ntmps41
   go_wp2
   go_ret
   exact ⟨by first | rfl | (simp; done) | (simp [*]; done), by repeat (first | exact Drawn0.refl _ | apply Drawn0.step)⟩
end Go.Proofs.Ytdfilkofhgmakaa.F
