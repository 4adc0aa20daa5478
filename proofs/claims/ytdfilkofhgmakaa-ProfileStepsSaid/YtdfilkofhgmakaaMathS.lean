/- Plain facts: what Smooth of the reference tells. -/
import Derived.Test.YtdfilkofhgmakaaMathA
import Derived.Test.YtdfilkofhgmakaaFx24
import Derived.OpenShut
namespace Go.Proofs.Ytdfilkofhgmakaa.Pure
open Go.RowKit Go.Proofs.Ytdfilkofhgmakaa.F Go.Proofs.YtdfilkofhgmakaaW.PrintWords Go.Proofs.YtdfilkofhgmakaaW.PrintLast Go.Proofs.YtdfilkofhgmakaaW.PrintMore
set_option linter.unusedVariables false
set_option linter.unusedSimpArgs false
theorem smooth_j1 (L : List Int) (S A J : Int) (h : okL S A J) (k : Nat) (v a x i : Int) (hv : 0 ≤ v ∧ v ≤ S) (ha : -100000 ≤ a ∧ a ≤ 100000) :
    swarfref49_Smooth.j1 (k+1) L v a i x S A J = if okStep S A J v a x then swarfref49_Smooth.l0 k L x (x-v) (wrap64 (i+1)) S A J else some false := by
  unfold okL at h
  simp only [swarfref49_Smooth.j1, rwithin_f, Option.bind_some, decide_eq_true_eq]
  by_cases c1 : 0 ≤ x ∧ x ≤ S
  · rw [if_pos c1, w64 (x := x - v) (by omega) (by omega), w64 (x := -A) (by omega) (by omega), w64 (x := x - v - a) (by omega) (by omega), w64 (x := -J) (by omega) (by omega)]
    by_cases c2 : -A ≤ x - v ∧ x - v ≤ A
    · rw [if_pos c2]
      by_cases c3 : -J ≤ x - v - a ∧ x - v - a ≤ J
      · rw [if_pos c3, if_pos (show okStep S A J v a x by unfold okStep; omega)]
      · rw [if_neg c3, if_neg (show ¬ okStep S A J v a x by unfold okStep; omega)]
    · rw [if_neg c2, if_neg (show ¬ okStep S A J v a x by unfold okStep; omega)]
  · rw [if_neg c1, if_neg (show ¬ okStep S A J v a x by unfold okStep; omega)]

theorem smooth_l0 (L : List Int) (S A J : Int) (h : okL S A J) (hn : L.length ≤ 1000000000) (d : Nat) : ∀ (k i : Nat) (v a : Int), L.length - i = d → i ≤ L.length → 2*d + 6 ≤ k → 0 ≤ v ∧ v ≤ S → -100000 ≤ a ∧ a ≤ 100000 →
    swarfref49_Smooth.l0 k L v a i S A J = some (smo S A J v a (L.drop i)) := by
  have h' := h
  unfold okL at h'
  induction d with
  | zero =>
    intro k i v a e1 e2 e3 hv ha
    obtain ⟨k, rfl⟩ : ∃ m, k = m + 5 := ⟨k - 5, by omega⟩
    have hd : L.drop i = [] := List.drop_eq_nil_of_le (by omega)
    rw [swarfref49_Smooth.l0, w64 (x := (L.length:Int)+2) (by omega) (by omega), if_pos (by omega), if_neg (by omega), smooth_j1 L S A J h _ _ _ _ _ hv ha, hd]
    simp only [smo]
    by_cases c : okStep S A J v a 0
    · have c' := c
      unfold okStep at c'
      rw [if_pos c, w64 (x := (i:Int)+1) (by omega) (by omega), swarfref49_Smooth.l0, w64 (x := (L.length:Int)+2) (by omega) (by omega), if_pos (by omega), if_neg (by omega), smooth_j1 L S A J h _ _ _ _ _ (by omega) (by omega)]
      by_cases c2 : okStep S A J 0 (0-v) 0
      · rw [if_pos c2, w64 (x := (i:Int)+1+1) (by omega) (by omega), swarfref49_Smooth.l0, w64 (x := (L.length:Int)+2) (by omega) (by omega), if_neg (by omega)]; simp only [c, c2, decide_true, Bool.and_self]
      · rw [if_neg c2]; simp only [c2, decide_false, Bool.and_false]
    · rw [if_neg c]; simp only [c, decide_false, Bool.false_and]
  | succ d ih =>
    intro k i v a e1 e2 e3 hv ha
    obtain ⟨k, rfl⟩ : ∃ m, k = m + 2 := ⟨k - 2, by omega⟩
    have hi : i < L.length := by omega
    have er : rd L (i:Int) = L[i] := by unfold rd; simp [hi]
    have hd : L.drop i = L[i] :: L.drop (i+1) := List.drop_eq_getElem_cons hi
    rw [swarfref49_Smooth.l0, w64 (x := (L.length:Int)+2) (by omega) (by omega), if_pos (by omega), if_pos (by omega), if_pos (by omega), er, smooth_j1 L S A J h _ _ _ _ _ hv ha, hd]
    simp only [smo]
    by_cases c : okStep S A J v a L[i]
    · have c' := c
      unfold okStep at c'
      have nx := ih k (i+1) L[i] (L[i]-v) (by omega) (by omega) (by omega) (by omega) (by omega)
      rw [show ((i+1 : Nat) : Int) = (i:Int)+1 by omega] at nx
      rw [if_pos c, w64 (x := (i:Int)+1) (by omega) (by omega), nx]
      simp only [c, decide_true, Bool.true_and]
    · rw [if_neg c]; simp only [c, decide_false, Bool.false_and]

theorem smooth_f (L : List Int) (S A J : Int) (hn : L.length ≤ 1000000000) (k : Nat) (hk : 2*L.length + 6 ≤ k) :
    swarfref49_Smooth.f k L S A J = some (decide (okL S A J) && smo S A J 0 0 L) := by
  unfold swarfref49_Smooth.f
  rw [rvalid_f]
  simp only [Option.bind_some]
  by_cases o : okL S A J
  · rw [if_pos o, if_pos rfl]
    have o' := o
    unfold okL at o'
    have s := smooth_l0 L S A J o hn L.length k 0 0 0 (by omega) (by omega) (by omega) (by omega) (by omega)
    rw [List.drop_zero] at s
    simp only [o, decide_true, Bool.true_and]
    exact s
  · rw [if_neg o, if_neg (by omega)]; simp [o]


end Go.Proofs.Ytdfilkofhgmakaa.Pure
