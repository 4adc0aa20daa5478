/- Plain facts: the next round of the positions of the reference. -/
import Derived.Test.YtblonchpophnkaaMathR
import Derived.Test.YtblonchpophnkaaMathS
import Derived.Test.YtblonchpophnkaaMathF
import Derived.Test.YtblonchpophnkaaFp30
import Derived.OpenShut
namespace Go.Proofs.Ytblonchpophnkaa.Pure
open Go.RowKit Go.Proofs.Ytblonchpophnkaa.F Go.Proofs.YtblonchpophnkaaW.PrintWords Go.Proofs.YtblonchpophnkaaW.PrintLast Go.Proofs.YtblonchpophnkaaW.PrintMore
set_option linter.unusedVariables false
set_option linter.unusedSimpArgs false
/-- the positions to which one move leads -/
def piece (x y z : Int) (m : S27) : List S23 := if isarc m.f0 then (arcR x y z m.f0 m.f1.f0 m.f1.f1 m.f1.f2 m.f2.f0 m.f2.f1 m.f3).1 else [⟨m.f1.f0, m.f1.f1, m.f1.f2⟩]
theorem piece_length (x y z : Int) (m : S27) : (piece x y z m).length ≤ 4000 := by
  unfold piece
  split
  · exact arcR_length
  · simp
theorem rd27_at (l : List S27) (i : Nat) (hi : i < l.length) : rd_T27 l (i:Int) = l[i] := by unfold rd_T27; simp [hi]
/-- the next round of the reference -/
theorem ref_step (l : List S27) (k i : Nat) (full : List S23) (x y z : Int) (hi : i < l.length) (hn : l.length ≤ 12) (hm : Move64 l[i]) (hk : 6000 ≤ k) (x1 : I64 x) (y1 : I64 y) (hf : full.length ≤ 100000) :
    swarfref33_Positions.l0 (k+1) l full i x y z = if validS x y z l[i].f0 l[i].f1.f0 l[i].f1.f1 l[i].f1.f2 l[i].f2.f0 l[i].f2.f1 l[i].f3 = 0 then
      swarfref33_Positions.l0 k l (full ++ piece x y z l[i]) ((i:Int)+1) l[i].f1.f0 l[i].f1.f1 l[i].f1.f2 else some ([], validS x y z l[i].f0 l[i].f1.f0 l[i].f1.f1 l[i].f1.f2 l[i].f2.f0 l[i].f2.f1 l[i].f3) := by
  obtain ⟨⟨m1, m2, m3⟩, m4, m5⟩ := hm
  have e2 := rd27_at l i hi
  have pl := piece_length x y z l[i]
  have q1 : (i:Int) < (l.length:Int) := by omega
  have q2 : 0 ≤ (i:Int) := by omega
  have hk2 : 8 ≤ k := Nat.le_trans (by decide) hk
  have q3 : full.length + (piece x y z l[i]).length < 5864062014805 := by omega
  rw [swarfref33_Positions.l0, if_pos q1, if_pos q2, e2, w64 (x := (i:Int)+1) (by omega) (by omega), rvalid_f k hk2 x1 y1 m1 m2 m4 m5]
  rw [Option.bind_some]
  by_cases v : validS x y z l[i].f0 l[i].f1.f0 l[i].f1.f1 l[i].f1.f2 l[i].f2.f0 l[i].f2.f1 l[i].f3 = 0
  · rw [if_pos v, if_pos v, arc_f, Option.bind_some]
    by_cases a : isarc l[i].f0
    · have ep : (arcR x y z l[i].f0 l[i].f1.f0 l[i].f1.f1 l[i].f1.f2 l[i].f2.f0 l[i].f2.f1 l[i].f3).1 = piece x y z l[i] := by
        unfold piece
        rw [if_pos a]
      rw [if_pos (decide_eq_true a), rArc_f k hk x1 y1 m1 m2 m4 m5, Option.bind_some, ep, if_pos q3]
    · have ep : [(⟨l[i].f1.f0, l[i].f1.f1, l[i].f1.f2⟩ : S23)] = piece x y z l[i] := by
        unfold piece
        rw [if_neg a]
      rw [if_neg (by simp [a]), ep, if_pos (by omega)]
  · rw [if_neg v, if_neg v]

end Go.Proofs.Ytblonchpophnkaa.Pure
