/- Plain facts: the motions of the program are those of the reference. -/
import Derived.Test.YtblonchpophnkaaMathPa
import Derived.Test.YtblonchpophnkaaMathH
import Derived.Test.YtblonchpophnkaaHn
import Derived.Test.YtblonchpophnkaaFm33
import Derived.OpenShut
namespace Go.Proofs.Ytblonchpophnkaa.Pure
open Go.RowKit Go.Proofs.Ytblonchpophnkaa.F Go.Proofs.YtblonchpophnkaaW.PrintWords Go.Proofs.YtblonchpophnkaaW.PrintLast Go.Proofs.YtblonchpophnkaaW.PrintMore
set_option linter.unusedVariables false
set_option linter.unusedSimpArgs false
def neB (a p : S23) : Bool := (!(a.f0 == p.f0) || (!(a.f1 == p.f1) || (!(a.f2 == p.f2))))
theorem neB_comm (a p : S23) : neB p a = neB a p := by
  unfold neB
  rw [Bool.beq_comm (a := p.f0), Bool.beq_comm (a := p.f1), Bool.beq_comm (a := p.f2)]
theorem neB_iff (a p : S23) : neB a p = true ↔ a ≠ p := by
  obtain ⟨a0, a1, a2⟩ := a
  obtain ⟨p0, p1, p2⟩ := p
  unfold neB
  simp only [Bool.or_eq_true, Bool.not_eq_true', beq_eq_false_iff_ne, ne_eq, S23.mk.injEq]
  omega
/-- the motions over some positions, from a position -/
def legs (tool i rate : Int) : S23 → List S23 → List S51
  | _, [] => []
  | a, p :: ps => (if neB a p = true then [⟨a, p, rate, tool, i⟩] else []) ++ legs tool i rate p ps
def lastP : S23 → List S23 → S23
  | a, [] => a
  | _, p :: ps => lastP p ps
theorem lastP_append (a : S23) (l : List S23) (p : S23) : lastP a (l ++ [p]) = p := by
  induction l generalizing a with
  | nil => rfl
  | cons q l ih => exact ih q
theorem legs_length (tool i rate : Int) (l : List S23) : ∀ a, (legs tool i rate a l).length ≤ l.length := by
  induction l with
  | nil => intro a; simp [legs]
  | cons p l ih =>
    intro a
    have := ih p
    unfold legs
    rw [List.length_append, List.length_cons]
    split <;> simp <;> omega
def chOk : S23 → List S51 → Prop
  | _, [] => True
  | p, m :: ms => m.f0 = p ∧ neB m.f0 m.f1 = true ∧ chOk m.f1 ms
def chEnd : S23 → List S51 → S23
  | p, [] => p
  | _, m :: ms => chEnd m.f1 ms
theorem ch_append (x : List S51) : ∀ (p : S23) (y : List S51), chOk p (x ++ y) ↔ chOk p x ∧ chOk (chEnd p x) y := by
  induction x with
  | nil => intro p y; simp [chOk, chEnd]
  | cons m x ih => intro p y; simp only [List.cons_append, chOk, chEnd, ih, and_assoc]
theorem chEnd_append (x : List S51) : ∀ (p : S23) (y : List S51), chEnd p (x ++ y) = chEnd (chEnd p x) y := by
  induction x with
  | nil => intro p y; rfl
  | cons m x ih => intro p y; exact ih m.f1 y
theorem legs_ch (tool i rate : Int) (l : List S23) : ∀ a, chOk a (legs tool i rate a l) ∧ chEnd a (legs tool i rate a l) = lastP a l := by
  induction l with
  | nil => intro a; exact ⟨trivial, rfl⟩
  | cons p l ih =>
    intro a
    obtain ⟨h1, h2⟩ := ih p
    unfold legs lastP
    by_cases c : neB a p = true
    · rw [if_pos c]
      exact ⟨⟨rfl, c, h1⟩, h2⟩
    · rw [if_neg c, List.nil_append]
      have e : a = p := by
        by_cases e : a = p
        · exact e
        · exact absurd ((neB_iff a p).2 e) c
      subst e
      exact ⟨h1, h2⟩
theorem rd23_at (l : List S23) (i : Nat) (hi : i < l.length) : rd_T23 l (i:Int) = l[i] := by unfold rd_T23; simp [hi]
/-- what the closure of Motions tells -/
theorem mot_l0 (l : List S27) (tool : Int) (i : Nat) (hi : i < l.length) (pl : List S23) (hp : pl.length ≤ 10000) (d : Nat) : ∀ (k j : Nat) (ol : List S51) (a : S23), pl.length - j = d → j ≤ pl.length → d + 1 ≤ k → ol.length + d ≤ 200000 →
    interpolate_Motions_1.l0 k l tool i pl ol j a.f0 a.f1 a.f2 = some (ol ++ legs tool i l[i].f3 a (pl.drop j), (lastP a (pl.drop j)).f0, (lastP a (pl.drop j)).f1, (lastP a (pl.drop j)).f2) := by
  induction d with
  | zero =>
    intro k j ol a h1 h2 h3 h4
    obtain ⟨k, rfl⟩ : ∃ m, k = m + 1 := ⟨k - 1, by omega⟩
    rw [interpolate_Motions_1.l0, if_neg (show ¬ ((j:Int) < (pl.length:Int)) by omega), List.drop_eq_nil_of_le (by omega)]
    simp [legs, lastP]
  | succ d ih =>
    intro k j ol a h1 h2 h3 h4
    obtain ⟨k, rfl⟩ : ∃ m, k = m + 1 := ⟨k - 1, by omega⟩
    have hj : j < pl.length := by omega
    have e1 := rd23_at pl j hj
    have e2 := rd27_at l i hi
    have ed : pl.drop j = pl[j] :: pl.drop (j+1) := List.drop_eq_getElem_cons hj
    have q1 : (j:Int) < (pl.length:Int) := by omega
    have q2 : 0 ≤ (j:Int) := by omega
    have q3 : 0 ≤ (i:Int) := by omega
    have q4 : (i:Int) < (l.length:Int) := by omega
    rw [interpolate_Motions_1.l0, if_pos q1, if_pos q2, e1, e2, w64 (x := (j:Int)+1) (by omega) (by omega), ed]
    by_cases c : neB a pl[j] = true
    · have nx := ih k (j+1) (ol ++ [⟨a, pl[j], l[i].f3, tool, i⟩]) pl[j] (by omega) (by omega) (by omega) (by rw [List.length_append]; simp; omega)
      rw [show ((j+1 : Nat) : Int) = (j:Int)+1 by omega] at nx
      rw [if_pos (show (!(a.f0 == pl[j].f0) || (!(a.f1 == pl[j].f1) || (!(a.f2 == pl[j].f2)))) = true from c), if_pos q3, if_pos q4, if_pos (by omega)]
      rw [legs, lastP, if_pos c]
      rw [List.append_assoc] at nx
      exact nx
    · have nx := ih k (j+1) ol pl[j] (by omega) (by omega) (by omega) (by omega)
      rw [show ((j+1 : Nat) : Int) = (j:Int)+1 by omega] at nx
      rw [if_neg (show ¬ (!(a.f0 == pl[j].f0) || (!(a.f1 == pl[j].f1) || (!(a.f2 == pl[j].f2)))) = true from c)]
      rw [legs, lastP, if_neg c, List.nil_append]
      exact nx
/-- the inner loop of the reference -/
theorem rmot_l1 (l : List S27) (tool : Int) (i : Nat) (hi : i < l.length) (hn : l.length ≤ 12) (pl : List S23) (hp : pl.length ≤ 10000) (B : Nat) (r : List S51 × Int) (d : Nat) : ∀ (k j : Nat) (ol : List S51) (a : S23), pl.length - j = d → j ≤ pl.length → d + 1 + B ≤ k → ol.length + d ≤ 200000 →
    (∀ k', B ≤ k' → swarfref33_Motions.l0 k' l tool (ol ++ legs tool i l[i].f3 a (pl.drop j)) ((i:Int)+1) (lastP a (pl.drop j)).f0 (lastP a (pl.drop j)).f1 (lastP a (pl.drop j)).f2 = some r) →
    swarfref33_Motions.l1 k l tool ol i pl j a.f0 a.f1 a.f2 = some r := by
  induction d with
  | zero =>
    intro k j ol a h1 h2 h3 h4 h5
    obtain ⟨k, rfl⟩ : ∃ m, k = m + 1 := ⟨k - 1, by omega⟩
    rw [List.drop_eq_nil_of_le (by omega)] at h5
    simp only [legs, lastP, List.append_nil] at h5
    rw [swarfref33_Motions.l1, if_neg (show ¬ ((j:Int) < (pl.length:Int)) by omega), w64 (x := (i:Int)+1) (by omega) (by omega)]
    exact h5 k (by omega)
  | succ d ih =>
    intro k j ol a h1 h2 h3 h4 h5
    obtain ⟨k, rfl⟩ : ∃ m, k = m + 1 := ⟨k - 1, by omega⟩
    have hj : j < pl.length := by omega
    have e1 := rd23_at pl j hj
    have e2 := rd27_at l i hi
    have ed : pl.drop j = pl[j] :: pl.drop (j+1) := List.drop_eq_getElem_cons hj
    have q1 : (j:Int) < (pl.length:Int) := by omega
    have q2 : 0 ≤ (j:Int) := by omega
    have q3 : 0 ≤ (i:Int) := by omega
    have q4 : (i:Int) < (l.length:Int) := by omega
    rw [ed] at h5
    rw [swarfref33_Motions.l1, if_pos q1, if_pos q2, e1, e2, w64 (x := (j:Int)+1) (by omega) (by omega)]
    by_cases c : neB a pl[j] = true
    · rw [legs, lastP, if_pos c] at h5
      have nx := ih k (j+1) (ol ++ [⟨a, pl[j], l[i].f3, tool, i⟩]) pl[j] (by omega) (by omega) (by omega) (by rw [List.length_append]; simp; omega) (by
        intro k' hk'
        rw [List.append_assoc]
        exact h5 k' hk')
      rw [show ((j+1 : Nat) : Int) = (j:Int)+1 by omega] at nx
      rw [if_pos (show (!(pl[j].f0 == a.f0) || (!(pl[j].f1 == a.f1) || (!(pl[j].f2 == a.f2)))) = true from (neB_comm a pl[j]).trans c), if_pos q3, if_pos q4, if_pos (by omega)]
      exact nx
    · rw [legs, lastP, if_neg c, List.nil_append] at h5
      have nx := ih k (j+1) ol pl[j] (by omega) (by omega) (by omega) (by omega) h5
      rw [show ((j+1 : Nat) : Int) = (j:Int)+1 by omega] at nx
      rw [if_neg (show ¬ (!(pl[j].f0 == a.f0) || (!(pl[j].f1 == a.f1) || (!(pl[j].f2 == a.f2)))) = true from fun h => c ((neB_comm a pl[j]).symm.trans h))]
      exact nx
/-- the last position of a valid move's piece -/
theorem piece_last (x y z : Int) (m : S27) (v : validS x y z m.f0 m.f1.f0 m.f1.f1 m.f1.f2 m.f2.f0 m.f2.f1 m.f3 = 0) (a : S23) : lastP a (piece x y z m) = m.f1 := by
  unfold piece
  by_cases c : isarc m.f0
  · rw [if_pos c]
    have e : (arcR x y z m.f0 m.f1.f0 m.f1.f1 m.f1.f2 m.f2.f0 m.f2.f1 m.f3).1 = arcL x y z m.f0 m.f1.f0 m.f1.f1 m.f1.f2 m.f2.f0 m.f2.f1 := by
      unfold arcR
      rw [if_pos c, if_pos v]
    obtain ⟨n1, n2, n3⟩ := arcL_length v c
    rw [e]
    unfold arcL at n1 n3 ⊢
    rw [AL_length] at n3
    obtain ⟨t, ht⟩ : ∃ t : Nat, (chN (ab (x-m.f2.f0) + ab (y-m.f2.f1)) * quartersS x y m.f0 m.f1.f0 m.f1.f1 m.f2.f0 m.f2.f1).toNat = t + 1 := ⟨_, (Nat.sub_add_cancel n3).symm⟩
    have hl := arcAt_last v c t (by omega)
    rw [ht, AL_succ, lastP_append]
    exact hl
  · rw [if_neg c]
    rfl
/-- the positions of one valid move alone -/
theorem rpos_one (x y z : Int) (m : S27) (hm : Move64 m) (v : validS x y z m.f0 m.f1.f0 m.f1.f1 m.f1.f2 m.f2.f0 m.f2.f1 m.f3 = 0) (x1 : I64 x) (y1 : I64 y) (k : Nat) (hk : 6100 ≤ k) : swarfref33_Positions.f k x y z [m] = some (piece x y z m, 0) := by
  obtain ⟨k, rfl⟩ : ∃ n, k = n + 2 := ⟨k - 2, by omega⟩
  have pl := piece_length x y z m
  have s := ref_step [m] (k+1) 0 [] x y z (by simp) (by simp) hm (by omega) x1 y1 (by simp)
  have s' : swarfref33_Positions.l0 (k+2) [m] [] 0 x y z = if validS x y z m.f0 m.f1.f0 m.f1.f1 m.f1.f2 m.f2.f0 m.f2.f1 m.f3 = 0 then swarfref33_Positions.l0 (k+1) [m] (piece x y z m) 1 m.f1.f0 m.f1.f1 m.f1.f2 else some ([], validS x y z m.f0 m.f1.f0 m.f1.f1 m.f1.f2 m.f2.f0 m.f2.f1 m.f3) := s
  unfold swarfref33_Positions.f
  rw [s', if_pos v, swarfref33_Positions.l0, if_neg (show ¬ ((1:Int) < ([m].length : Int)) by simp), if_neg (by omega)]
theorem take_drop_one (l : List S27) (i : Nat) (hi : i < l.length) (hn : l.length ≤ 12) : (l.take (wrap64 ((i:Int)+1)).toNat).drop (i:Int).toNat = [l[i]] := by
  rw [w64 (by omega) (by omega), show ((i:Int)+1).toNat = i + 1 by omega, Int.toNat_natCast, List.take_succ_eq_append_getElem hi, List.drop_append_of_le_length (by rw [List.length_take]; omega), List.drop_eq_nil_of_le (by rw [List.length_take]; omega), List.nil_append]

end Go.Proofs.Ytblonchpophnkaa.Pure
