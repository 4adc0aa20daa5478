/- The law ProfileRest, told of numbers alone. -/
import Derived.Test.YtdfilkofhgmakaaMathC
import Derived.Test.YtdfilkofhgmakaaFx32
import Derived.OpenShut
namespace Go.Proofs.Ytdfilkofhgmakaa.Pure
open Go.RowKit Go.Proofs.Ytdfilkofhgmakaa.F Go.Proofs.YtdfilkofhgmakaaW.PrintWords Go.Proofs.YtdfilkofhgmakaaW.PrintLast Go.Proofs.YtdfilkofhgmakaaW.PrintMore
set_option linter.unusedVariables false
set_option linter.unusedSimpArgs false
/-- each step of a list -/
def chk (S A J : Int) : Int → Int → List Int → Bool
  | _, _, [] => true
  | v, a, x :: xs => decide (okStep S A J v a x) && chk S A J x (x-v) xs
theorem chk_of_smo (S A J : Int) (T : List Int) : ∀ v a, smo S A J v a T = true → chk S A J v a (T ++ [0, 0]) = true := by
  induction T with
  | nil => intro v a h; simp only [smo, Bool.and_eq_true] at h; simp only [List.nil_append, chk, h.1, h.2, Bool.and_self]
  | cons x T ih =>
    intro v a h
    simp only [smo, Bool.and_eq_true] at h
    simp only [List.cons_append, chk, h.1, ih _ _ h.2, Bool.and_self]
theorem rest_l0 {S A J : Int} (h : okL S A J) (X : List Int) (hn : (X.length : Int) ≤ 100000000000) (d : Nat) : ∀ (k i : Nat) (v a : Int), X.length - i = d → i ≤ X.length → d < k → 0 ≤ v ∧ v ≤ S → -100000 ≤ a ∧ a ≤ 100000 → chk S A J v a (X.drop i) = true →
    swarflaw49_ProfileRest.l0 k v a X (X.length : Int) i S A J = some true := by
  have h' := h
  unfold okL at h'
  induction d with
  | zero =>
    intro k i v a e1 e2 e3 hv ha hc
    obtain ⟨k, rfl⟩ : ∃ m, k = m + 1 := ⟨k - 1, by omega⟩
    rw [swarflaw49_ProfileRest.l0, if_neg (by omega)]
  | succ d ih =>
    intro k i v a e1 e2 e3 hv ha hc
    obtain ⟨k, rfl⟩ : ∃ m, k = m + 1 := ⟨k - 1, by omega⟩
    have hi : i < X.length := by omega
    have er : rd X (i:Int) = X[i] := by unfold rd; simp [hi]
    have hd : X.drop i = X[i] :: X.drop (i+1) := List.drop_eq_getElem_cons hi
    rw [hd] at hc
    simp only [chk, Bool.and_eq_true, decide_eq_true_eq] at hc
    obtain ⟨o, hc⟩ := hc
    unfold okStep at o
    have nx := ih k (i+1) X[i] (X[i] - v) (by omega) (by omega) (by omega) (by omega) (by omega) hc
    rw [show ((i+1 : Nat) : Int) = (i:Int)+1 by omega] at nx
    rw [swarflaw49_ProfileRest.l0, if_pos (by omega), if_pos (by omega), if_pos (by omega), er, if_neg (by omega), if_neg (by omega), w64 (x := X[i] - v) (by omega) (by omega), if_neg (by omega), w64 (x := -A) (by omega) (by omega), if_neg (by omega),
      w64 (x := X[i] - v - a) (by omega) (by omega), if_neg (by omega), w64 (x := a - (X[i] - v)) (by omega) (by omega), if_neg (by omega), w64 (x := (i:Int)+1) (by omega) (by omega)]
    exact nx

theorem law_rest (b l S A J : Int) : ∃ k, swarflaw49_ProfileRest.f k b l S A J = some true := by
  have away : ∀ k, 300000 ≤ k → swarflaw49_ProfileRest.j0 k b l true S A J = some true := by
    intro k hk
    obtain ⟨k, rfl⟩ : ∃ m, k = m + 1 := ⟨k - 1, by omega⟩
    rw [swarflaw49_ProfileRest.j0, if_pos rfl, awake_at _ (by omega)]; rfl
  by_cases m : movS S A J b l
  · obtain ⟨T, K, t⟩ := brk_all m.1 m.2.2.2
    refine ⟨K + T.length + 300010, ?_⟩
    have o' := m.1
    unfold okL at o'
    have tl := t.len
    unfold swarflaw49_ProfileRest.f swarflaw49_slow.f
    rw [awake_at _ (by omega)]
    simp only [Option.bind_some, if_true]
    have e : ∃ q, (if S ≤ 300 then (if A ≤ 300 then some (decide (J ≤ 300)) else some false) else some false) = some q := by
      split
      · split
        · exact ⟨_, rfl⟩
        · exact ⟨_, rfl⟩
      · exact ⟨_, rfl⟩
    obtain ⟨q, hq⟩ := e
    rw [hq]
    simp only [Option.bind_some]
    cases q with
    | false => rw [if_neg (by decide)]; exact away _ (by omega)
    | true =>
      rw [if_pos rfl, rbrakes_f _ (by omega), if_pos m]
      simp only [Option.bind_some]
      rw [show K + T.length + 300010 = (K + T.length + 300009) + 1 by omega, swarflaw49_ProfileRest.j0, if_neg (by decide)]
      unfold swarflaw49_theirs.f profile_Stop.f
      simp only [Option.bind_some]
      rw [moving_f _ (by omega), decide_eq_true m]
      simp only [Option.bind_some, if_true]
      rw [mov_b m, t.prog _ (by omega) [] (by simp)]
      simp only [Option.bind_some, if_true, List.nil_append, List.length_nil, List.length_cons]
      rw [if_pos (by omega), if_pos (by omega)]
      have c := chk_of_smo S A J T l (l-b) t.smo
      have len2 : (T ++ [0, 0]).length = T.length + 2 := by simp
      exact rest_l0 m.1 (T ++ [0, 0]) (by rw [len2]; omega) (T.length + 2) _ 0 l (l-b) (by rw [len2]; omega) (by omega) (by omega) m.2.2.1 (by have := m.2.1; have := m.2.2.1; omega) (by rw [List.drop_zero]; exact c)
  · refine ⟨400000, ?_⟩
    unfold swarflaw49_ProfileRest.f swarflaw49_slow.f
    rw [awake_at _ (by omega)]
    simp only [Option.bind_some, if_true]
    have e : ∃ q, (if S ≤ 300 then (if A ≤ 300 then some (decide (J ≤ 300)) else some false) else some false) = some q := by
      split
      · split
        · exact ⟨_, rfl⟩
        · exact ⟨_, rfl⟩
      · exact ⟨_, rfl⟩
    obtain ⟨q, hq⟩ := e
    rw [hq]
    simp only [Option.bind_some]
    cases q with
    | false => rw [if_neg (by decide)]; exact away _ (by omega)
    | true =>
      rw [if_pos rfl, rbrakes_f _ (by omega), if_neg m]
      simp only [Option.bind_some]
      exact away _ (by omega)


end Go.Proofs.Ytdfilkofhgmakaa.Pure
