/- The law ProfileSafe, told of numbers alone. -/
import Derived.Test.YtdfilkofhgmakaaMathC
import Derived.Test.YtdfilkofhgmakaaMathS
import Derived.Test.YtdfilkofhgmakaaFx33
import Derived.OpenShut
namespace Go.Proofs.Ytdfilkofhgmakaa.Pure
open Go.RowKit Go.Proofs.Ytdfilkofhgmakaa.F Go.Proofs.YtdfilkofhgmakaaW.PrintWords Go.Proofs.YtdfilkofhgmakaaW.PrintLast Go.Proofs.YtdfilkofhgmakaaW.PrintMore
set_option linter.unusedVariables false
set_option linter.unusedSimpArgs false
/-- the states of a smooth list are safe -/
theorem safe_of_smo {S A J : Int} (h : okL S A J) (X : List Int) : ∀ v a, 0 ≤ v → v ≤ S → -A ≤ a → a ≤ A → smo S A J v a X = true → safeS S A J v a := by
  have h' := h
  unfold okL at h'
  have step : ∀ v a x, 0 ≤ v → v ≤ S → -A ≤ a → a ≤ A → okStep S A J v a x → safeS S A J x (x-v) → safeS S A J v a := by
    intro v a x v0 v1 a0 a1 o s
    unfold okStep at o
    obtain ⟨s1, s2, s3, s4, s5, s6⟩ := s
    refine ⟨v0, v1, a0, a1, fun ha => ?_, fun ha => ?_⟩
    · rcases Int.lt_or_le J a with hc | hc
      · have st := fad_step (J := J) (a := a) (by omega) hc
        have := s5 (by omega)
        have mo := fad_mono (J := J) (by omega) (show a - J ≤ x - v by omega)
        omega
      · rw [fad_low hc]; omega
    · rcases Int.lt_or_le J (-a) with hc | hc
      · have st := fad_step (J := J) (a := -a) (by omega) hc
        have := s6 (by omega)
        have mo := fad_mono (J := J) (by omega) (show -a - J ≤ -(x - v) by omega)
        omega
      · rw [fad_low hc]; omega
  induction X with
  | nil =>
    intro v a v0 v1 a0 a1 hs
    simp only [smo, Bool.and_eq_true, decide_eq_true_eq] at hs
    obtain ⟨o1, o2⟩ := hs
    have o1' := o1
    have o2' := o2
    unfold okStep at o1' o2'
    have s0 : safeS S A J 0 0 := ⟨by omega, by omega, by omega, by omega, fun _ => by omega, fun _ => by rw [fad_low (by omega)]; omega⟩
    have s1 := step 0 (0-v) 0 (by omega) (by omega) (by omega) (by omega) o2 (by simpa using s0)
    exact step v a 0 v0 v1 a0 a1 o1 s1
  | cons x X ih =>
    intro v a v0 v1 a0 a1 hs
    simp only [smo, Bool.and_eq_true, decide_eq_true_eq] at hs
    obtain ⟨o1, o2⟩ := hs
    have o1' := o1
    unfold okStep at o1'
    exact step v a x v0 v1 a0 a1 o1 (ih x (x-v) (by omega) (by omega) (by omega) (by omega) o2)

theorem safe_l0 {S A J : Int} (h : okL S A J) (X : List Int) (hn : X.length ≤ 60) (d : Nat) : ∀ (i : Nat) (v a : Int), X.length - i = d → i ≤ X.length → 0 ≤ v → v ≤ S → -A ≤ a → a ≤ A → smo S A J v a (X.drop i) = true →
    ∃ K, ∀ k, K ≤ k → swarflaw49_ProfileSafe.l0 k v X (X.length : Int) i S A J = some true := by
  have h' := h
  unfold okL at h'
  induction d with
  | zero =>
    intro i v a e1 e2 hv hv2 ha ha2 hs
    refine ⟨1, fun k hk => ?_⟩
    obtain ⟨k, rfl⟩ : ∃ m, k = m + 1 := ⟨k - 1, by omega⟩
    rw [swarflaw49_ProfileSafe.l0, if_neg (by omega)]
  | succ d ih =>
    intro i v a e1 e2 hv hv2 ha ha2 hs
    have hi : i < X.length := by omega
    have er : rd X (i:Int) = X[i] := by unfold rd; simp [hi]
    have hd : X.drop i = X[i] :: X.drop (i+1) := List.drop_eq_getElem_cons hi
    rw [hd] at hs
    simp only [smo, Bool.and_eq_true, decide_eq_true_eq] at hs
    obtain ⟨o, hs⟩ := hs
    unfold okStep at o
    have sf := safe_of_smo h _ X[i] (X[i] - v) (by omega) (by omega) (by omega) (by omega) hs
    have m : movS S A J v X[i] := ⟨h, ⟨hv, hv2⟩, ⟨by omega, by omega⟩, sf⟩
    obtain ⟨T, K, t⟩ := brk_all h sf
    obtain ⟨K2, hK2⟩ := ih (i+1) X[i] (X[i]-v) (by omega) (by omega) (by omega) (by omega) (by omega) (by omega) hs
    refine ⟨K + K2 + 10, fun k hk => ?_⟩
    obtain ⟨k, rfl⟩ : ∃ m, k = m + 1 := ⟨k - 1, by omega⟩
    have nx := hK2 k (by omega)
    rw [show ((i+1 : Nat) : Int) = (i:Int)+1 by omega] at nx
    rw [swarflaw49_ProfileSafe.l0, if_pos (by omega), if_pos (by omega), if_pos (by omega), er]
    unfold swarflaw49_theirs.f profile_Needed.f profile_Limits_distance.f
    simp only [Option.bind_some]
    rw [moving_f _ (by omega), decide_eq_true m]
    simp only [Option.bind_some, if_true]
    rw [mov_b m, t.dist _ (by omega) 0 (by omega) (by omega)]
    simp only [Option.bind_some, if_true]
    rw [w64 (x := (i:Int)+1) (by omega) (by omega)]
    exact nx

theorem law_safe (X : List Int) (S A J : Int) : ∃ k, swarflaw49_ProfileSafe.f k X S A J = some true := by
  have away : ∀ k, 300 ≤ k → swarflaw49_ProfileSafe.j0 k X true S A J = some true := by
    intro k hk
    obtain ⟨k, rfl⟩ : ∃ m, k = m + 1 := ⟨k - 1, by omega⟩
    rw [swarflaw49_ProfileSafe.j0, if_pos rfl, awake_at _ (by omega)]; rfl
  have e : ∃ q, (if S ≤ 300 then (if A ≤ 300 then some (decide (J ≤ 300)) else some false) else some false) = some q := by
    split
    · split
      · exact ⟨_, rfl⟩
      · exact ⟨_, rfl⟩
    · exact ⟨_, rfl⟩
  obtain ⟨q, hq⟩ := e
  by_cases c : (X.length : Int) > 60
  · refine ⟨400, ?_⟩
    unfold swarflaw49_ProfileSafe.f swarflaw49_slow.f
    rw [awake_at _ (by omega)]
    simp only [Option.bind_some, if_true]
    rw [hq]
    simp only [Option.bind_some]
    cases q with
    | false => rw [if_neg (by decide)]; exact away _ (by omega)
    | true => rw [if_pos rfl, if_pos c]; exact away _ (by omega)
  · by_cases sm : okL S A J ∧ smo S A J 0 0 X = true
    · obtain ⟨o, sm⟩ := sm
      have o' := o
      unfold okL at o'
      obtain ⟨K, hK⟩ := safe_l0 o X (by omega) X.length 0 0 0 (by omega) (by omega) (by omega) (by omega) (by omega) (by omega) (by rw [List.drop_zero]; exact sm)
      refine ⟨K + 400, ?_⟩
      unfold swarflaw49_ProfileSafe.f swarflaw49_slow.f
      rw [awake_at _ (by omega)]
      simp only [Option.bind_some, if_true]
      rw [hq]
      simp only [Option.bind_some]
      cases q with
      | false => rw [if_neg (by decide)]; exact away _ (by omega)
      | true =>
        rw [if_pos rfl, if_neg c, smooth_f X S A J (by omega) _ (by omega), decide_eq_true o, sm]
        simp only [Option.bind_some]
        rw [show K + 400 = (K + 399) + 1 by omega, swarflaw49_ProfileSafe.j0, if_neg (by decide)]
        exact hK _ (by omega)
    · refine ⟨400, ?_⟩
      unfold swarflaw49_ProfileSafe.f swarflaw49_slow.f
      rw [awake_at _ (by omega)]
      simp only [Option.bind_some, if_true]
      rw [hq]
      simp only [Option.bind_some]
      cases q with
      | false => rw [if_neg (by decide)]; exact away _ (by omega)
      | true =>
        rw [if_pos rfl, if_neg c, smooth_f X S A J (by omega) _ (by omega)]
        have f : (decide (okL S A J) && smo S A J 0 0 X) = false := by
          by_cases o : okL S A J
          · have : ¬ smo S A J 0 0 X = true := fun z => sm ⟨o, z⟩
            simp [this]
          · simp [o]
        rw [f]
        simp only [Option.bind_some]
        exact away _ (by omega)


end Go.Proofs.Ytdfilkofhgmakaa.Pure
