/- Plain facts: the positions of the program are those of the reference. -/
import Derived.Test.YtblonchpophnkaaMathR
import Derived.Test.YtblonchpophnkaaMathS
import Derived.Test.YtblonchpophnkaaMathF
import Derived.Test.YtblonchpophnkaaHq
import Derived.Test.YtblonchpophnkaaFp30
import Derived.Test.YtblonchpophnkaaFp31
import Derived.Test.YtblonchpophnkaaFp32
import Derived.OpenShut
namespace Go.Proofs.Ytblonchpophnkaa.Pure
open Go.RowKit Go.Proofs.Ytblonchpophnkaa.F Go.Proofs.YtblonchpophnkaaW.PrintWords Go.Proofs.YtblonchpophnkaaW.PrintLast Go.Proofs.YtblonchpophnkaaW.PrintMore
set_option linter.unusedVariables false
set_option linter.unusedSimpArgs false
/-- the positions to which one move leads -/
def piece (x y z : Int) (m : S27) : List S23 := if isarc m.f0 then (arcR x y z m.f0 m.f1.f0 m.f1.f1 m.f1.f2 m.f2.f0 m.f2.f1 m.f3).1 else [⟨m.f1.f0, m.f1.f1, m.f1.f2⟩]
theorem piece_length (x y z : Int) (m : S27) : (piece x y z m).length ≤ 4000 := by
  unfold piece
  split
  · exact arcR_length
  · simp
theorem rd27_at (l : List S27) (i : Nat) (hi : i < l.length) : rd_T27 l (i:Int) = l[i] := by unfold rd_T27; simp [hi]
/-- the next round of the reference -/
theorem ref_step (l : List S27) (k i : Nat) (full : List S23) (x y z : Int) (hi : i < l.length) (hn : l.length ≤ 12) (hm : Move64 l[i]) (hk : 6000 ≤ k) (x1 : I64 x) (y1 : I64 y) (hf : full.length ≤ 100000) :
    swarfref33_Positions.l0 (k+1) l full i x y z = if validS x y z l[i].f0 l[i].f1.f0 l[i].f1.f1 l[i].f1.f2 l[i].f2.f0 l[i].f2.f1 l[i].f3 = 0 then
      swarfref33_Positions.l0 k l (full ++ piece x y z l[i]) ((i:Int)+1) l[i].f1.f0 l[i].f1.f1 l[i].f1.f2 else some ([], validS x y z l[i].f0 l[i].f1.f0 l[i].f1.f1 l[i].f1.f2 l[i].f2.f0 l[i].f2.f1 l[i].f3) := by
  obtain ⟨⟨m1, m2, m3⟩, m4, m5⟩ := hm
  have e2 := rd27_at l i hi
  have pl := piece_length x y z l[i]
  have q1 : (i:Int) < (l.length:Int) := by omega
  have q2 : 0 ≤ (i:Int) := by omega
  have hk2 : 8 ≤ k := Nat.le_trans (by decide) hk
  have q3 : full.length + (piece x y z l[i]).length < 5864062014805 := by omega
  rw [swarfref33_Positions.l0, if_pos q1, if_pos q2, e2, w64 (x := (i:Int)+1) (by omega) (by omega), rvalid_f k hk2 x1 y1 m1 m2 m4 m5]
  rw [Option.bind_some]
  by_cases v : validS x y z l[i].f0 l[i].f1.f0 l[i].f1.f1 l[i].f1.f2 l[i].f2.f0 l[i].f2.f1 l[i].f3 = 0
  · rw [if_pos v, if_pos v, arc_f, Option.bind_some]
    by_cases a : isarc l[i].f0
    · have ep : (arcR x y z l[i].f0 l[i].f1.f0 l[i].f1.f1 l[i].f1.f2 l[i].f2.f0 l[i].f2.f1 l[i].f3).1 = piece x y z l[i] := by
        unfold piece
        rw [if_pos a]
      rw [if_pos (decide_eq_true a), rArc_f k hk x1 y1 m1 m2 m4 m5, Option.bind_some, ep, if_pos q3]
    · have ep : [(⟨l[i].f1.f0, l[i].f1.f1, l[i].f1.f2⟩ : S23)] = piece x y z l[i] := by
        unfold piece
        rw [if_neg a]
      rw [if_neg (by simp [a]), ep, if_pos (by omega)]
  · rw [if_neg v, if_neg v]
/-- the next round of each -/
theorem each_step (l : List S27) (k i : Nat) (ol : List S23) (tot x y z : Int) (hi : i < l.length) (hn : l.length ≤ 12) (hm : Move64 l[i]) (hk : 6000 ≤ k) (x1 : I64 x) (y1 : I64 y) (z1 : I64 z) (hf : ol.length ≤ 100000) (ht : 0 ≤ tot ∧ tot ≤ 100000) :
    interpolate_each_1.l0 (k+1) l ol tot i x y z = if validS x y z l[i].f0 l[i].f1.f0 l[i].f1.f1 l[i].f1.f2 l[i].f2.f0 l[i].f2.f1 l[i].f3 = 0 then
      interpolate_each_1.l0 k l (if tot + ((piece x y z l[i]).length : Int) ≤ 20000 then ol ++ piece x y z l[i] else ol) (tot + ((piece x y z l[i]).length : Int)) ((i:Int)+1) l[i].f1.f0 l[i].f1.f1 l[i].f1.f2 else some (ol, validS x y z l[i].f0 l[i].f1.f0 l[i].f1.f1 l[i].f1.f2 l[i].f2.f0 l[i].f2.f1 l[i].f3) := by
  obtain ⟨⟨m1, m2, m3⟩, m4, m5⟩ := hm
  have e2 := rd27_at l i hi
  have pl := piece_length x y z l[i]
  have q1 : (i:Int) < (l.length:Int) := by omega
  have q2 : 0 ≤ (i:Int) := by omega
  have hk2 : 30 ≤ k := Nat.le_trans (by decide) hk
  have q3 : ol.length + (piece x y z l[i]).length < 5864062014805 := by omega
  have q4 : wrap64 (tot + ((piece x y z l[i]).length : Int)) = tot + ((piece x y z l[i]).length : Int) := w64 (by omega) (by omega)
  have eo : (if wrap64 (tot + ((piece x y z l[i]).length : Int)) ≤ 20000 then
        (if ol.length + (piece x y z l[i]).length < 5864062014805 then interpolate_each_1.l0 k l (ol ++ piece x y z l[i]) (wrap64 (tot + ((piece x y z l[i]).length : Int))) ((i:Int)+1) l[i].f1.f0 l[i].f1.f1 l[i].f1.f2 else none)
        else interpolate_each_1.l0 k l ol (wrap64 (tot + ((piece x y z l[i]).length : Int))) ((i:Int)+1) l[i].f1.f0 l[i].f1.f1 l[i].f1.f2) =
      interpolate_each_1.l0 k l (if tot + ((piece x y z l[i]).length : Int) ≤ 20000 then ol ++ piece x y z l[i] else ol) (tot + ((piece x y z l[i]).length : Int)) ((i:Int)+1) l[i].f1.f0 l[i].f1.f1 l[i].f1.f2 := by
    rw [q4]
    by_cases c : tot + ((piece x y z l[i]).length : Int) ≤ 20000
    · rw [if_pos c, if_pos c, if_pos q3]
    · rw [if_neg c, if_neg c]
  clear q4
  rw [interpolate_each_1.l0, if_pos q1, if_pos q2, e2, w64 (x := (i:Int)+1) (by omega) (by omega), valid_f k hk2 x1 y1 z1 m1 m2 m3 m4 m5]
  rw [Option.bind_some]
  by_cases v : validS x y z l[i].f0 l[i].f1.f0 l[i].f1.f1 l[i].f1.f2 l[i].f2.f0 l[i].f2.f1 l[i].f3 = 0
  · rw [if_pos v, if_pos v, isArc_f, Option.bind_some]
    by_cases a : isarc l[i].f0
    · have ep : (arcR x y z l[i].f0 l[i].f1.f0 l[i].f1.f1 l[i].f1.f2 l[i].f2.f0 l[i].f2.f1 l[i].f3).1 = piece x y z l[i] := by
        unfold piece
        rw [if_pos a]
      have ez : (arcR x y z l[i].f0 l[i].f1.f0 l[i].f1.f1 l[i].f1.f2 l[i].f2.f0 l[i].f2.f1 l[i].f3).2 = 0 := by
        unfold arcR
        rw [if_pos a, if_pos v]
      rw [if_pos (decide_eq_true a), Arc_f k hk x1 y1 z1 m1 m2 m3 m4 m5, Option.bind_some, ep, if_pos ez, eo]
    · have ep : [(⟨l[i].f1.f0, l[i].f1.f1, l[i].f1.f2⟩ : S23)] = piece x y z l[i] := by
        unfold piece
        rw [if_neg a]
      rw [if_neg (by simp [a]), ep, eo]
  · rw [if_neg v, if_neg v]
/-- the reference and each go on alike -/
theorem pos_l0 (l : List S27) (hl : ∀ m ∈ l, Move64 m) (hn : l.length ≤ 12) (d : Nat) : ∀ (k i : Nat) (full ol : List S23) (x y z : Int), l.length - i = d → i ≤ l.length → d + 6100 ≤ k → I64 x → I64 y → I64 z →
    full.length ≤ 4000 * i → (full.length ≤ 20000 → ol = full) → ol.length ≤ full.length →
    ∃ (res : List S23) (e : Int) (ol' : List S23), swarfref33_Positions.l0 k l full i x y z = some (res, e) ∧ interpolate_each_1.l0 k l ol (full.length : Int) i x y z = some (ol', e) ∧ (e = 0 → ol' = res) ∧ (e ≠ 0 → res = []) ∧ res.length ≤ 48000 := by
  induction d with
  | zero =>
    intro k i full ol x y z h1 h2 h3 x1 y1 z1 h4 h5 h6
    obtain ⟨k, rfl⟩ : ∃ m, k = m + 1 := ⟨k - 1, by omega⟩
    rw [swarfref33_Positions.l0, interpolate_each_1.l0, if_neg (show ¬ ((i:Int) < (l.length:Int)) by omega), if_neg (show ¬ ((i:Int) < (l.length:Int)) by omega)]
    by_cases c : (full.length : Int) > 20000
    · rw [if_pos c, if_pos c]
      exact ⟨[], 3, ol, rfl, rfl, fun z => by omega, fun _ => rfl, by simp⟩
    · rw [if_neg c, if_neg c]
      exact ⟨full, 0, ol, rfl, rfl, fun _ => h5 (by omega), fun z => absurd rfl z, by omega⟩
  | succ d ih =>
    intro k i full ol x y z h1 h2 h3 x1 y1 z1 h4 h5 h6
    obtain ⟨k, rfl⟩ : ∃ m, k = m + 1 := ⟨k - 1, by omega⟩
    have hi : i < l.length := by omega
    have hm := hl l[i] (List.getElem_mem hi)
    have hm' := hm
    obtain ⟨⟨m1, m2, m3⟩, m4, m5⟩ := hm'
    have pl := piece_length x y z l[i]
    have nx := ih k (i+1) (full ++ piece x y z l[i]) (if (full.length : Int) + ((piece x y z l[i]).length : Int) ≤ 20000 then ol ++ piece x y z l[i] else ol) l[i].f1.f0 l[i].f1.f1 l[i].f1.f2 (by omega) (by omega) (by omega) m1 m2 m3
      (by rw [List.length_append]; omega) (by
        intro z
        rw [List.length_append] at z
        rw [if_pos (by omega), h5 (by omega)]) (by
        rw [List.length_append]
        split
        · rw [List.length_append]; omega
        · omega)
    rw [show ((i+1 : Nat) : Int) = (i:Int)+1 by omega, show ((full ++ piece x y z l[i]).length : Int) = (full.length : Int) + ((piece x y z l[i]).length : Int) by rw [List.length_append]; omega] at nx
    rw [ref_step l k i full x y z hi hn hm (by omega) x1 y1 (by omega), each_step l k i ol _ x y z hi hn hm (by omega) x1 y1 z1 (by omega) (by omega)]
    by_cases v : validS x y z l[i].f0 l[i].f1.f0 l[i].f1.f1 l[i].f1.f2 l[i].f2.f0 l[i].f2.f1 l[i].f3 = 0
    · rw [if_pos v, if_pos v]
      exact nx
    · rw [if_neg v, if_neg v]
      exact ⟨[], _, ol, rfl, rfl, fun z => absurd z v, fun _ => rfl, by simp⟩
theorem pos_f (l : List S27) (hl : ∀ m ∈ l, Move64 m) (hn : l.length ≤ 12) (k : Nat) (hk : 6200 ≤ k) (x y z : Int) (x1 : I64 x) (y1 : I64 y) (z1 : I64 z) :
    ∃ (res : List S23) (e : Int), swarfref33_Positions.f k x y z l = some (res, e) ∧ interpolate_Positions.f k x y z l = some (res, e) ∧ res.length ≤ 48000 := by
  obtain ⟨res, e, ol', p1, p2, p3, p4, p5⟩ := pos_l0 l hl hn l.length k 0 [] [] x y z (by omega) (by omega) (by omega) x1 y1 z1 (by simp) (fun _ => rfl) (by simp)
  refine ⟨res, e, p1, ?_, p5⟩
  unfold interpolate_Positions.f interpolate_each_1.f
  have p2' : interpolate_each_1.l0 k l [] 0 0 x y z = some (ol', e) := p2
  rw [p2']
  simp only [Option.bind_some]
  by_cases c : e = 0
  · rw [if_pos c, p3 c, c]
  · rw [if_neg c, p4 c]
theorem end_f (x y z : Int) (l : List S27) (hn : l.length ≤ 12) : ∃ p, interpolate_End.f x y z l = some p ∧ swarfref33_End.f x y z l = some p := by
  unfold interpolate_End.f swarfref33_End.f
  by_cases c : (l.length : Int) = 0
  · rw [if_pos c]; exact ⟨_, rfl, rfl⟩
  · rw [if_neg c, w64 (x := (l.length : Int) - 1) (by omega) (by omega), if_pos (by omega), if_pos (by omega)]
    exact ⟨_, rfl, rfl⟩

end Go.Proofs.Ytblonchpophnkaa.Pure
