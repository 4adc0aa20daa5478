/- Plain facts: a list is the same as itself; how long the list of an arc is. -/
import Derived.Test.YtblonchpophnkaaMathB
import Derived.Test.YtblonchpophnkaaFx12
import Derived.OpenShut
namespace Go.Proofs.Ytblonchpophnkaa.Pure
open Go.RowKit Go.Proofs.Ytblonchpophnkaa.F Go.Proofs.YtblonchpophnkaaW.PrintWords Go.Proofs.YtblonchpophnkaaW.PrintLast Go.Proofs.YtblonchpophnkaaW.PrintMore
set_option linter.unusedVariables false
set_option linter.unusedSimpArgs false
theorem same_l0 (l : List S23) (hn : l.length ≤ 1000000) (d : Nat) : ∀ (k i : Nat), l.length - i = d → i ≤ l.length → d < k → swarfref33_Same.l0 k l l i = some true := by
  induction d with
  | zero =>
    intro k i h1 h2 h3
    obtain ⟨k, rfl⟩ : ∃ m, k = m + 1 := ⟨k - 1, by omega⟩
    rw [swarfref33_Same.l0, if_neg (by omega)]
  | succ d ih =>
    intro k i h1 h2 h3
    obtain ⟨k, rfl⟩ : ∃ m, k = m + 1 := ⟨k - 1, by omega⟩
    have nx := ih k (i+1) (by omega) (by omega) (by omega)
    rw [show ((i+1 : Nat) : Int) = (i:Int)+1 by omega] at nx
    rw [swarfref33_Same.l0, if_pos (by omega), if_pos (by omega), if_pos (by omega), if_neg (by simp), w64 (x := (i:Int)+1) (by omega) (by omega)]
    exact nx
theorem same_f (l : List S23) (hn : l.length ≤ 1000000) (k : Nat) (hk : l.length < k) : swarfref33_Same.f k l l = some true := by
  unfold swarfref33_Same.f
  rw [if_pos rfl]
  exact same_l0 l hn l.length k 0 (by omega) (by omega) hk

theorem arcL_length {fx fy fz kind tx ty tz cx cy rate : Int} (v : validS fx fy fz kind tx ty tz cx cy rate = 0) (a : isarc kind) :
    (arcL fx fy fz kind tx ty tz cx cy).length = (chN (ab (fx-cx) + ab (fy-cy)) * quartersS fx fy kind tx ty cx cy).toNat ∧ (arcL fx fy fz kind tx ty tz cx cy).length ≤ 4000 ∧ 1 ≤ (arcL fx fy fz kind tx ty tz cx cy).length := by
  have ok := arcOk_of v a
  obtain ⟨s0, s3, r0, r1, n1, n2, q1, q4, -, -, -, -⟩ := ok
  have nq := mulb (a := chN (ab (fx-cx) + ab (fy-cy))) (b := quartersS fx fy kind tx ty cx cy) (A := 1000) (B := 4) (by omega) (by omega) (by omega) (by omega) (by omega)
  have pos : 0 < chN (ab (fx-cx) + ab (fy-cy)) * quartersS fx fy kind tx ty cx cy := Int.mul_pos (by omega) (by omega)
  unfold arcL
  rw [AL_length]
  exact ⟨rfl, by omega, by omega⟩

theorem arcR_length {fx fy fz kind tx ty tz cx cy rate : Int} : (arcR fx fy fz kind tx ty tz cx cy rate).1.length ≤ 4000 := by
  unfold arcR
  by_cases a : isarc kind
  · rw [if_pos a]
    by_cases v : validS fx fy fz kind tx ty tz cx cy rate = 0
    · rw [if_pos v]; exact (arcL_length v a).2.1
    · rw [if_neg v]; simp
  · rw [if_neg a]; simp


end Go.Proofs.Ytblonchpophnkaa.Pure
