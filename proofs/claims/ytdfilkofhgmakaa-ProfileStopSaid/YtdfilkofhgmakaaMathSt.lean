/- The law ProfileStop, told of numbers alone. -/
import Derived.Test.YtdfilkofhgmakaaMathC
import Derived.Test.YtdfilkofhgmakaaFx16
import Derived.Test.YtdfilkofhgmakaaFx30
import Derived.Test.YtdfilkofhgmakaaFx31
import Derived.OpenShut
namespace Go.Proofs.Ytdfilkofhgmakaa.Pure
open Go.RowKit Go.Proofs.Ytdfilkofhgmakaa.F Go.Proofs.YtdfilkofhgmakaaW.PrintWords Go.Proofs.YtdfilkofhgmakaaW.PrintLast Go.Proofs.YtdfilkofhgmakaaW.PrintMore
set_option linter.unusedVariables false
set_option linter.unusedSimpArgs false
theorem same_l0 (l : List Int) (hn : (l.length : Int) ≤ 100000000000) (d : Nat) : ∀ (k i : Nat), l.length - i = d → i ≤ l.length → d < k → swarfref49_Same.l0 k l l i = some true := by
  induction d with
  | zero =>
    intro k i h1 h2 h3
    obtain ⟨k, rfl⟩ : ∃ m, k = m + 1 := ⟨k - 1, by omega⟩
    rw [swarfref49_Same.l0, if_neg (by omega)]
  | succ d ih =>
    intro k i h1 h2 h3
    obtain ⟨k, rfl⟩ : ∃ m, k = m + 1 := ⟨k - 1, by omega⟩
    have nx := ih k (i+1) (by omega) (by omega) (by omega)
    rw [show ((i+1 : Nat) : Int) = (i:Int)+1 by omega] at nx
    rw [swarfref49_Same.l0, if_pos (by omega), if_pos (by omega), if_pos (by omega), if_pos rfl, w64 (x := (i:Int)+1) (by omega) (by omega)]
    exact nx
theorem same_f (l : List Int) (hn : (l.length : Int) ≤ 100000000000) (k : Nat) (hk : l.length < k) : swarfref49_Same.f k l l = some true := by
  unfold swarfref49_Same.f
  rw [if_pos rfl]
  exact same_l0 l hn l.length k 0 (by omega) (by omega) hk
theorem sum_l0 (l : List Int) (hn : (l.length : Int) ≤ 100000000000) (hp : ∀ x ∈ l, 0 ≤ x ∧ x ≤ 100000) (d : Nat) : ∀ (k i : Nat) (acc : Int), l.length - i = d → i ≤ l.length → d < k → 0 ≤ acc → acc + 100000 * (d : Int) ≤ 1000000000000000000 →
    swarfref49_Sum.l0 k l acc i = some (acc + (l.drop i).sum) := by
  induction d with
  | zero =>
    intro k i acc h1 h2 h3 h4 h5
    obtain ⟨k, rfl⟩ : ∃ m, k = m + 1 := ⟨k - 1, by omega⟩
    rw [swarfref49_Sum.l0, if_neg (by omega), List.drop_eq_nil_of_le (by omega)]; simp
  | succ d ih =>
    intro k i acc h1 h2 h3 h4 h5
    obtain ⟨k, rfl⟩ : ∃ m, k = m + 1 := ⟨k - 1, by omega⟩
    have hi : i < l.length := by omega
    have er : rd l (i:Int) = l[i] := by unfold rd; simp [hi]
    have hd : l.drop i = l[i] :: l.drop (i+1) := List.drop_eq_getElem_cons hi
    have b := hp l[i] (List.getElem_mem hi)
    have nx := ih k (i+1) (acc + l[i]) (by omega) (by omega) (by omega) (by omega) (by omega)
    rw [show ((i+1 : Nat) : Int) = (i:Int)+1 by omega] at nx
    rw [swarfref49_Sum.l0, if_pos (by omega), if_pos (by omega), er, w64 (x := acc + l[i]) (by omega) (by omega), w64 (x := (i:Int)+1) (by omega) (by omega), nx, hd, List.sum_cons, Int.add_assoc]
theorem sum_f (l : List Int) (hn : (l.length : Int) ≤ 100000000000) (hp : ∀ x ∈ l, 0 ≤ x ∧ x ≤ 100000) (k : Nat) (hk : l.length < k) : swarfref49_Sum.f k l = some l.sum := by
  unfold swarfref49_Sum.f
  have := sum_l0 l hn hp l.length k 0 0 (by omega) (by omega) hk (by omega) (by omega)
  rw [List.drop_zero, Int.zero_add] at this
  exact this

theorem law_stop (b l S A J : Int) : ∃ k, swarflaw49_ProfileStop.f k b l S A J = some true := by
  by_cases m : movS S A J b l
  · obtain ⟨T, K, t⟩ := brk_all m.1 m.2.2.2
    refine ⟨K + T.length + 200000, ?_⟩
    have o' := m.1
    unfold okL at o'
    have tl := t.len
    unfold swarflaw49_ProfileStop.f swarflaw49_slow.f
    rw [awake_at _ (by omega)]
    simp only [Option.bind_some, if_true]
    have e : ∃ q, (if S ≤ 300 then (if A ≤ 300 then some (decide (J ≤ 300)) else some false) else some false) = some q := by
      split
      · split
        · exact ⟨_, rfl⟩
        · exact ⟨_, rfl⟩
      · exact ⟨_, rfl⟩
    obtain ⟨q, hq⟩ := e
    rw [hq]
    simp only [Option.bind_some]
    rw [show K + T.length + 200000 = (K + T.length + 199999) + 1 by omega, swarflaw49_ProfileStop.j0]
    cases q with
    | false => rw [if_pos (by decide), awake_at _ (by omega)]; rfl
    | true =>
      rw [if_neg (by decide)]
      unfold swarflaw49_theirs.f profile_Stop.f profile_Needed.f profile_Limits_distance.f
      simp only [Option.bind_some]
      rw [moving_f _ (by omega), decide_eq_true m, rbrakes_f _ (by omega), if_pos m]
      simp only [Option.bind_some, if_true]
      unfold swarfref49_Stop.f
      rw [mov_b m, t.prog _ (by omega) [] (by simp), t.ref _ (by omega) [] (by simp), t.dist _ (by omega) 0 (by omega) (by omega)]
      simp only [Option.bind_some, if_true, List.nil_append, Int.zero_add]
      rw [same_f T (by omega) _ (by omega), sum_f T (by omega) (fun x hx => by have := t.pos x hx; omega) _ (by omega)]
      simp
  · refine ⟨200000, ?_⟩
    unfold swarflaw49_ProfileStop.f swarflaw49_slow.f
    rw [awake_at _ (by omega)]
    simp only [Option.bind_some, if_true]
    have e : ∃ q, (if S ≤ 300 then (if A ≤ 300 then some (decide (J ≤ 300)) else some false) else some false) = some q := by
      split
      · split
        · exact ⟨_, rfl⟩
        · exact ⟨_, rfl⟩
      · exact ⟨_, rfl⟩
    obtain ⟨q, hq⟩ := e
    rw [hq]
    simp only [Option.bind_some]
    rw [swarflaw49_ProfileStop.j0]
    cases q with
    | false => rw [if_pos (by decide), awake_at _ (by omega)]; rfl
    | true =>
      rw [if_neg (by decide)]
      unfold swarflaw49_theirs.f profile_Stop.f profile_Needed.f
      simp only [Option.bind_some]
      rw [moving_f _ (by omega), decide_eq_false m, rbrakes_f _ (by omega), if_neg m]
      simp


end Go.Proofs.Ytdfilkofhgmakaa.Pure
