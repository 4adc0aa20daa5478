/- The law InterpolateMotions, told of numbers alone. -/
import Derived.Test.YtblonchpophnkaaMathQ
import Derived.Test.YtblonchpophnkaaFm34
import Derived.OpenShut
namespace Go.Proofs.Ytblonchpophnkaa.Pure
open Go.RowKit Go.Proofs.Ytblonchpophnkaa.F Go.Proofs.YtblonchpophnkaaW.PrintWords Go.Proofs.YtblonchpophnkaaW.PrintLast Go.Proofs.YtblonchpophnkaaW.PrintMore
set_option linter.unusedVariables false
set_option linter.unusedSimpArgs false
/-- the next round of each, handed the closure of Motions -/
theorem each2_step (l : List S27) (tool : Int) (k i : Nat) (ol : List S51) (tot x y z : Int) (a : S23) (hi : i < l.length) (hn : l.length ≤ 12) (hm : Move64 l[i]) (hk : 6000 ≤ k) (x1 : I64 x) (y1 : I64 y) (z1 : I64 z) (hf : ol.length ≤ 100000) (ht : 0 ≤ tot ∧ tot ≤ 100000) :
    interpolate_each_2.l0 (k+1) l tool ol tot i x y z a.f0 a.f1 a.f2 = if validS x y z l[i].f0 l[i].f1.f0 l[i].f1.f1 l[i].f1.f2 l[i].f2.f0 l[i].f2.f1 l[i].f3 = 0 then
      (if tot + ((piece x y z l[i]).length : Int) ≤ 20000 then
        interpolate_each_2.l0 k l tool (ol ++ legs tool i l[i].f3 a (piece x y z l[i])) (tot + ((piece x y z l[i]).length : Int)) ((i:Int)+1) l[i].f1.f0 l[i].f1.f1 l[i].f1.f2 (lastP a (piece x y z l[i])).f0 (lastP a (piece x y z l[i])).f1 (lastP a (piece x y z l[i])).f2
      else interpolate_each_2.l0 k l tool ol (tot + ((piece x y z l[i]).length : Int)) ((i:Int)+1) l[i].f1.f0 l[i].f1.f1 l[i].f1.f2 a.f0 a.f1 a.f2) else some (ol, validS x y z l[i].f0 l[i].f1.f0 l[i].f1.f1 l[i].f1.f2 l[i].f2.f0 l[i].f2.f1 l[i].f3) := by
  obtain ⟨⟨m1, m2, m3⟩, m4, m5⟩ := hm
  have e2 := rd27_at l i hi
  have pl := piece_length x y z l[i]
  have q1 : (i:Int) < (l.length:Int) := by omega
  have q2 : 0 ≤ (i:Int) := by omega
  have hk2 : 30 ≤ k := Nat.le_trans (by decide) hk
  have q4 : wrap64 (tot + ((piece x y z l[i]).length : Int)) = tot + ((piece x y z l[i]).length : Int) := w64 (by omega) (by omega)
  have mo := mot_l0 l tool i hi (piece x y z l[i]) (by omega) (piece x y z l[i]).length k 0 ol a (by omega) (by omega) (by omega) (by omega)
  rw [List.drop_zero] at mo
  have mo' : interpolate_Motions_1.l0 k l tool i (piece x y z l[i]) ol 0 a.f0 a.f1 a.f2 = some (ol ++ legs tool i l[i].f3 a (piece x y z l[i]), (lastP a (piece x y z l[i])).f0, (lastP a (piece x y z l[i])).f1, (lastP a (piece x y z l[i])).f2) := mo
  have eo : (if wrap64 (tot + ((piece x y z l[i]).length : Int)) ≤ 20000 then
        ((interpolate_Motions_1.l0 k l tool i (piece x y z l[i]) ol 0 a.f0 a.f1 a.f2).bind fun m => interpolate_each_2.l0 k l tool m.1 (wrap64 (tot + ((piece x y z l[i]).length : Int))) ((i:Int)+1) l[i].f1.f0 l[i].f1.f1 l[i].f1.f2 m.2.1 m.2.2.1 m.2.2.2)
        else interpolate_each_2.l0 k l tool ol (wrap64 (tot + ((piece x y z l[i]).length : Int))) ((i:Int)+1) l[i].f1.f0 l[i].f1.f1 l[i].f1.f2 a.f0 a.f1 a.f2) =
      (if tot + ((piece x y z l[i]).length : Int) ≤ 20000 then
        interpolate_each_2.l0 k l tool (ol ++ legs tool i l[i].f3 a (piece x y z l[i])) (tot + ((piece x y z l[i]).length : Int)) ((i:Int)+1) l[i].f1.f0 l[i].f1.f1 l[i].f1.f2 (lastP a (piece x y z l[i])).f0 (lastP a (piece x y z l[i])).f1 (lastP a (piece x y z l[i])).f2
      else interpolate_each_2.l0 k l tool ol (tot + ((piece x y z l[i]).length : Int)) ((i:Int)+1) l[i].f1.f0 l[i].f1.f1 l[i].f1.f2 a.f0 a.f1 a.f2) := by
    rw [q4, mo', Option.bind_some]
  clear q4 mo mo'
  rw [interpolate_each_2.l0, if_pos q1, if_pos q2, e2, w64 (x := (i:Int)+1) (by omega) (by omega), valid_f k hk2 x1 y1 z1 m1 m2 m3 m4 m5]
  rw [Option.bind_some]
  by_cases v : validS x y z l[i].f0 l[i].f1.f0 l[i].f1.f1 l[i].f1.f2 l[i].f2.f0 l[i].f2.f1 l[i].f3 = 0
  · rw [if_pos v, if_pos v, isArc_f, Option.bind_some]
    by_cases c : isarc l[i].f0
    · have ep : (arcR x y z l[i].f0 l[i].f1.f0 l[i].f1.f1 l[i].f1.f2 l[i].f2.f0 l[i].f2.f1 l[i].f3).1 = piece x y z l[i] := by
        unfold piece
        rw [if_pos c]
      have ez : (arcR x y z l[i].f0 l[i].f1.f0 l[i].f1.f1 l[i].f1.f2 l[i].f2.f0 l[i].f2.f1 l[i].f3).2 = 0 := by
        unfold arcR
        rw [if_pos c, if_pos v]
      rw [if_pos (decide_eq_true c), Arc_f k hk x1 y1 z1 m1 m2 m3 m4 m5, Option.bind_some, ep, if_pos ez, eo]
    · have ep : [(⟨l[i].f1.f0, l[i].f1.f1, l[i].f1.f2⟩ : S23)] = piece x y z l[i] := by
        unfold piece
        rw [if_neg c]
      rw [if_neg (by simp [c]), ep, eo]
  · rw [if_neg v, if_neg v]
def lastM : S23 → List S27 → S23
  | a, [] => a
  | _, m :: ms => lastM m.f1 ms
set_option maxRecDepth 100000 in
theorem mot_main (l : List S27) (hl : ∀ m ∈ l, Move64 m) (hn : l.length ≤ 12) (tool : Int) (p0 : S23) (d : Nat) : ∀ (i : Nat) (full : List S23) (ol : List S51) (x y z : Int) (a : S23), l.length - i = d → i ≤ l.length → I64 x → I64 y → I64 z →
    full.length ≤ 4000 * i → ol.length ≤ 4000 * i → (full.length ≤ 20000 → a = ⟨x, y, z⟩ ∧ chOk p0 ol ∧ chEnd p0 ol = a) →
    ∃ (res : List S23) (e : Int) (ol' : List S51), (∀ k, d + 6100 ≤ k → swarfref33_Positions.l0 k l full i x y z = some (res, e) ∧ interpolate_each_2.l0 k l tool ol (full.length : Int) i x y z a.f0 a.f1 a.f2 = some (ol', e)) ∧ ol'.length ≤ 48000 ∧
      (e = 0 → full.length ≤ 20000 ∧ (∀ k, d * 4100 + 6300 ≤ k → swarfref33_Motions.l0 k l tool ol i x y z = some (ol', 0)) ∧ chOk p0 ol' ∧ chEnd p0 ol' = lastM ⟨x, y, z⟩ (l.drop i)) := by
  induction d with
  | zero =>
    intro i full ol x y z a h1 h2 x1 y1 z1 h4 h5 h6
    have c0 : ¬ ((i:Int) < (l.length:Int)) := by omega
    by_cases c : (full.length : Int) > 20000
    · refine ⟨[], 3, ol, fun k hk => ?_, by omega, fun z => by omega⟩
      obtain ⟨k, rfl⟩ : ∃ m, k = m + 1 := ⟨k - 1, by omega⟩
      rw [swarfref33_Positions.l0, interpolate_each_2.l0, if_neg c0, if_neg c0, if_pos c, if_pos c]
      exact ⟨rfl, rfl⟩
    · obtain ⟨g1, g2, g3⟩ := h6 (by omega)
      refine ⟨full, 0, ol, fun k hk => ?_, by omega, fun _ => ⟨by omega, fun k hk => ?_, g2, ?_⟩⟩
      · obtain ⟨k, rfl⟩ : ∃ m, k = m + 1 := ⟨k - 1, by omega⟩
        rw [swarfref33_Positions.l0, interpolate_each_2.l0, if_neg c0, if_neg c0, if_neg c, if_neg c]
        exact ⟨rfl, rfl⟩
      · obtain ⟨k, rfl⟩ : ∃ m, k = m + 1 := ⟨k - 1, by omega⟩
        rw [swarfref33_Motions.l0, if_neg c0]
      · rw [g3, g1, List.drop_eq_nil_of_le (by omega)]; rfl
  | succ d ih =>
    intro i full ol x y z a h1 h2 x1 y1 z1 h4 h5 h6
    have hi : i < l.length := by omega
    have hm := hl l[i] (List.getElem_mem hi)
    have hm' := hm
    obtain ⟨⟨m1, m2, m3⟩, m4, m5⟩ := hm'
    have pl := piece_length x y z l[i]
    have ed : l.drop i = l[i] :: l.drop (i+1) := List.drop_eq_getElem_cons hi
    by_cases v : validS x y z l[i].f0 l[i].f1.f0 l[i].f1.f1 l[i].f1.f2 l[i].f2.f0 l[i].f2.f1 l[i].f3 = 0
    · by_cases c : full.length + (piece x y z l[i]).length ≤ 20000
      · obtain ⟨g1, g2, g3⟩ := h6 (by omega)
        have ll := legs_length tool (i:Int) l[i].f3 (piece x y z l[i]) a
        have lc := legs_ch tool (i:Int) l[i].f3 (piece x y z l[i]) a
        have la := piece_last x y z l[i] v a
        obtain ⟨res, e, ol', p1, p2, p3⟩ := ih (i+1) (full ++ piece x y z l[i]) (ol ++ legs tool i l[i].f3 a (piece x y z l[i])) l[i].f1.f0 l[i].f1.f1 l[i].f1.f2 (lastP a (piece x y z l[i])) (by omega) (by omega) m1 m2 m3
          (by rw [List.length_append]; omega) (by rw [List.length_append]; omega) (fun _ => ⟨la, (ch_append _ _ _).2 ⟨g2, by rw [g3]; exact lc.1⟩, by rw [chEnd_append, g3]; exact lc.2⟩)
        rw [show ((i+1 : Nat) : Int) = (i:Int)+1 by omega, show ((full ++ piece x y z l[i]).length : Int) = (full.length : Int) + ((piece x y z l[i]).length : Int) by rw [List.length_append]; omega] at p1
        refine ⟨res, e, ol', fun k hk => ?_, p2, fun he => ?_⟩
        · obtain ⟨k, rfl⟩ : ∃ m, k = m + 1 := ⟨k - 1, by omega⟩
          rw [ref_step l k i full x y z hi hn hm (by omega) x1 y1 (by omega), each2_step l tool k i ol _ x y z a hi hn hm (by omega) x1 y1 z1 (by omega) (by omega), if_pos v, if_pos v, if_pos (by omega)]
          exact p1 k (by omega)
        · obtain ⟨r1, r2, r3, r4⟩ := p3 he
          refine ⟨by omega, fun k hk => ?_, r3, ?_⟩
          · obtain ⟨k, rfl⟩ : ∃ m, k = m + 1 := ⟨k - 1, by omega⟩
            have td := take_drop_one l i hi hn
            have q1 : (i:Int) < (l.length:Int) := by omega
            have q2 : 0 ≤ (i:Int) := by omega
            have lm := rmot_l1 l tool i hi hn (piece x y z l[i]) (by omega) (d * 4100 + 6300) (ol', 0) (piece x y z l[i]).length k 0 ol a (by omega) (by omega) (by omega) (by omega) (by
              intro k' hk'
              rw [List.drop_zero]
              have := r2 k' hk'
              rw [la]
              rw [show ((i+1 : Nat) : Int) = (i:Int)+1 by omega] at this
              exact this)
            rw [swarfref33_Motions.l0, if_pos q1, if_pos q2, td, rpos_one x y z l[i] hm v x1 y1 k (by omega), w64 (x := (i:Int)+1) (by omega) (by omega), if_pos (by omega), if_pos (by omega), Option.bind_some]
            rw [g1] at lm
            exact lm
          · rw [r4, ed]; rfl
      · obtain ⟨res, e, ol', p1, p2, p3⟩ := ih (i+1) (full ++ piece x y z l[i]) ol l[i].f1.f0 l[i].f1.f1 l[i].f1.f2 a (by omega) (by omega) m1 m2 m3
          (by rw [List.length_append]; omega) (by omega) (fun h => by rw [List.length_append] at h; omega)
        rw [show ((i+1 : Nat) : Int) = (i:Int)+1 by omega, show ((full ++ piece x y z l[i]).length : Int) = (full.length : Int) + ((piece x y z l[i]).length : Int) by rw [List.length_append]; omega] at p1
        refine ⟨res, e, ol', fun k hk => ?_, p2, fun he => ?_⟩
        · obtain ⟨k, rfl⟩ : ∃ m, k = m + 1 := ⟨k - 1, by omega⟩
          rw [ref_step l k i full x y z hi hn hm (by omega) x1 y1 (by omega), each2_step l tool k i ol _ x y z a hi hn hm (by omega) x1 y1 z1 (by omega) (by omega), if_pos v, if_pos v, if_neg (by omega)]
          exact p1 k (by omega)
        · obtain ⟨r1, -⟩ := p3 he
          rw [List.length_append] at r1
          omega
    · refine ⟨[], _, ol, fun k hk => ?_, by omega, fun he => absurd he v⟩
      obtain ⟨k, rfl⟩ : ∃ m, k = m + 1 := ⟨k - 1, by omega⟩
      rw [ref_step l k i full x y z hi hn hm (by omega) x1 y1 (by omega), each2_step l tool k i ol _ x y z a hi hn hm (by omega) x1 y1 z1 (by omega) (by omega), if_neg v, if_neg v]
      exact ⟨rfl, rfl⟩
theorem lastM_get (l : List S27) : ∀ (a : S23), (h : 0 < l.length) → lastM a l = (l[l.length - 1]'(by omega)).f1 := by
  induction l with
  | nil => intro a h; simp at h
  | cons m l ih =>
    intro a h
    cases l with
    | nil => rfl
    | cons m2 l =>
      have := ih m.f1 (by simp)
      rw [lastM, this]
      congr 1
theorem end_M (x y z : Int) (l : List S27) (hn : l.length ≤ 12) : swarfref33_End.f x y z l = some ((lastM ⟨x, y, z⟩ l).f0, (lastM ⟨x, y, z⟩ l).f1, (lastM ⟨x, y, z⟩ l).f2) := by
  unfold swarfref33_End.f
  by_cases c : (l.length : Int) = 0
  · rw [if_pos c]
    obtain rfl : l = [] := List.eq_nil_of_length_eq_zero (by omega)
    rfl
  · have h0 : 0 < l.length := by omega
    have e := rd27_at l (l.length - 1) (by omega)
    rw [show ((l.length - 1 : Nat) : Int) = (l.length : Int) - 1 by omega] at e
    rw [if_neg c, w64 (x := (l.length : Int) - 1) (by omega) (by omega), if_pos (by omega), if_pos (by omega), e, lastM_get l _ h0]
theorem rd51_at (l : List S51) (i : Nat) (hi : i < l.length) : rd_T51 l (i:Int) = l[i] := by unfold rd_T51; simp [hi]
theorem law_l0 (l : List S27) (x y z : Int) (hn : l.length ≤ 12) (m : List S51) (hm : m.length ≤ 48000) (d : Nat) : ∀ (k j : Nat) (a : S23), m.length - j = d → j ≤ m.length → d + 1 ≤ k → chOk a (m.drop j) → chEnd a (m.drop j) = lastM ⟨x, y, z⟩ l →
    swarflaw33_InterpolateMotions.l0 k l m 0 m (m.length : Int) j x y z a.f0 a.f1 a.f2 = some true := by
  induction d with
  | zero =>
    intro k j a h1 h2 h3 h4 h5
    obtain ⟨k, rfl⟩ : ∃ m, k = m + 1 := ⟨k - 1, by omega⟩
    rw [List.drop_eq_nil_of_le (by omega)] at h5
    have h5' : a = lastM ⟨x, y, z⟩ l := h5
    rw [swarflaw33_InterpolateMotions.l0, if_neg (show ¬ ((j:Int) < (m.length:Int)) by omega), if_pos rfl, end_M x y z l hn, ← h5', Option.bind_some]
    simp
  | succ d ih =>
    intro k j a h1 h2 h3 h4 h5
    obtain ⟨k, rfl⟩ : ∃ m, k = m + 1 := ⟨k - 1, by omega⟩
    have hj : j < m.length := by omega
    have e1 := rd51_at m j hj
    have ed : m.drop j = m[j] :: m.drop (j+1) := List.drop_eq_getElem_cons hj
    have q1 : (j:Int) < (m.length:Int) := by omega
    have q2 : 0 ≤ (j:Int) := by omega
    rw [ed] at h4 h5
    obtain ⟨g1, g2, g3⟩ := h4
    have nx := ih k (j+1) m[j].f1 (by omega) (by omega) (by omega) g3 h5
    rw [show ((j+1 : Nat) : Int) = (j:Int)+1 by omega] at nx
    have c2 : ¬ ((!(m[j].f0.f0 == a.f0) || (!(m[j].f0.f1 == a.f1) || (!(m[j].f0.f2 == a.f2)))) = true) := by rw [g1]; simp
    have c3 : ¬ ((m[j].f0.f0 == m[j].f1.f0 && (m[j].f0.f1 == m[j].f1.f1 && (m[j].f0.f2 == m[j].f1.f2))) = true) := by
      intro h
      unfold neB at g2
      simp only [Bool.and_eq_true] at h
      rw [h.1, h.2.1, h.2.2] at g2
      exact absurd g2 (by decide)
    rw [swarflaw33_InterpolateMotions.l0, if_pos q1, if_pos q2, if_pos q1, if_pos q1, e1, w64 (x := (j:Int)+1) (by omega) (by omega), if_neg (by simp), if_neg c2, if_neg c3]
    exact nx
set_option maxRecDepth 100000 in
theorem law_motions (l : List S27) (hl : ∀ m ∈ l, Move64 m) (tool x y z : Int) (x1 : I64 x) (y1 : I64 y) (z1 : I64 z) : swarflaw33_InterpolateMotions.f 100000 x y z l tool = some true := by
  unfold swarflaw33_InterpolateMotions.f
  obtain ⟨b, e, hb⟩ := few_f l hl 12 (by omega) x y z x1 y1 z1 100000 (by omega)
  rw [awake_at 100000 (by omega)]
  simp only [Option.bind_some, if_true]
  rw [e]
  simp only [Option.bind_some]
  rw [show (100000 : Nat) = 99999 + 1 from rfl, swarflaw33_InterpolateMotions.j0]
  cases b with
  | false => rw [if_pos (by rfl), awake_at _ (by omega)]; rfl
  | true =>
    have hn := hb rfl
    obtain ⟨res, e, ol', p1, p2, p3⟩ := mot_main l hl (by omega) tool ⟨x, y, z⟩ l.length 0 [] [] x y z ⟨x, y, z⟩ (by omega) (by omega) x1 y1 z1 (by simp) (by simp) (fun _ => ⟨rfl, trivial, rfl⟩)
    obtain ⟨r1, r2⟩ := p1 99999 (by omega)
    have r1' : swarfref33_Positions.f 99999 x y z l = some (res, e) := r1
    have r2' : interpolate_each_2.f 99999 x y z l tool = some (ol', e) := r2
    rw [if_neg (by decide)]
    simp only [Option.bind_some, List.length_nil, List.nil_append]
    rw [if_pos (by omega)]
    unfold interpolate_Motions.f swarfref33_Motions.f
    rw [r1', r2']
    simp only [Option.bind_some]
    by_cases c : e = 0
    · obtain ⟨-, s2, s3, s4⟩ := p3 c
      have s2' : swarfref33_Motions.l0 99999 l tool [] 0 x y z = some (ol', 0) := s2 99999 (by omega)
      rw [if_pos c, if_pos c, s2']
      simp only [Option.bind_some, if_true]
      rw [show (99999 : Nat) = 99998 + 1 from rfl, swarflaw33_InterpolateMotions.j1, if_neg (by simp)]
      rw [List.drop_zero] at s4
      exact law_l0 l x y z (by omega) ol' p2 ol'.length 99998 0 ⟨x, y, z⟩ (by omega) (by omega) (by omega) (by rw [List.drop_zero]; exact s3) (by rw [List.drop_zero]; exact s4)
    · rw [if_neg c, if_neg c]
      simp only [Option.bind_some, if_true]
      rw [show (99999 : Nat) = 99998 + 1 from rfl, swarflaw33_InterpolateMotions.j1, if_neg (by simp), show (99998 : Nat) = 99997 + 1 from rfl, swarflaw33_InterpolateMotions.l0, if_neg (by simp), if_neg c]

end Go.Proofs.Ytblonchpophnkaa.Pure
