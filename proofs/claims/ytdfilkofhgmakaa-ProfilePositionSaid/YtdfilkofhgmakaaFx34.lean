-- The machine side of a proof, written by a program of the session out of Lean's print of the loaded functions. Lean checks it.
import Derived.Test.YtdfilkofhgmakaaFx0
import Derived.Test.YtdfilkofhgmakaaFx20
namespace Go.Proofs.Ytdfilkofhgmakaa.F
open Go.RowKit Go.Proofs.YtdfilkofhgmakaaW.PrintWords Go.Proofs.YtdfilkofhgmakaaW.PrintLast Go.Proofs.YtdfilkofhgmakaaW.PrintMore
attribute [local go_sem] max2_int min2_int max_two min_two max_three min_three max_four min_four   -- for this text's walks alone
set_option linter.unusedVariables false
set_option linter.unusedSimpArgs false
def swarfref49_far.f (a0 : Int) : Option (Bool) := (swarfref49_within.f a0 (-40000000) 40000000).bind fun t294 => (some (!t294))
set_option maxHeartbeats 8000000 in
set_option maxRecDepth 100000 in
theorem swarfref49_far.calls (a0 : Int) (r : Bool) (w : World) (h : swarfref49_far.f a0 = some r) :
  Calls Try.prog 40 #[.int .i64 a0] w fun e w' => e = .returned (.bool r) ∧ Drawn0 w w' := by
 have H : ((swarfref49_within.f a0 (-40000000) 40000000).bind fun t294 => (some (!t294))) = some r := h
 clear h
 replace H := Option.bind_eq_some_iff.mp H
 obtain ⟨t294, A20, H⟩ := H
 replace H : (some (!t294)) = some r := H
 have A2 := Aside0.mk A20
 clear A20
 obtain rfl := Option.some.inj H
 go_enter Try.func40, Try.ntmps40
 go_wp2_with (first | ((with_reducible refine gate_callee (f := 33) rfl ?_); refine goesL_ (some 4) rfl rfl Try.func33 (by kernel_rfl) rfl #[.int .i64 a0, .int .i64 (-40000000), .int .i64 40000000] rfl (by (try simp only [List.map_toArray, List.map_cons, List.map_nil]); first | done | rfl | (simp only [List.length_drop, List.length_take]; rfl)) ?_; (with_reducible refine (swarfref49_within.calls a0 (-40000000) 40000000 t294 _ A2.out).mono ?_); rintro e w' ⟨rfl, ⟨nd, rfl⟩⟩; refine ⟨_, rfl, ?_⟩))
 go_ret
 exact ⟨by first | rfl | (simp; done) | (simp [*]; done), by repeat (first | exact Drawn0.refl _ | apply Drawn0.step)⟩
end Go.Proofs.Ytdfilkofhgmakaa.F
