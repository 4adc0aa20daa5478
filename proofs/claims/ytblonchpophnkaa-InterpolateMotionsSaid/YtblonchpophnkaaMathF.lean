/- Plain facts: radii, and that Few tells something of every list of moves. -/
import Derived.Test.YtblonchpophnkaaMathA
import Derived.Test.YtblonchpophnkaaFx24
import Derived.Test.YtblonchpophnkaaFx25
import Derived.OpenShut
namespace Go.Proofs.Ytblonchpophnkaa.Pure
open Go.RowKit Go.Proofs.Ytblonchpophnkaa.F Go.Proofs.YtblonchpophnkaaW.PrintWords Go.Proofs.YtblonchpophnkaaW.PrintLast Go.Proofs.YtblonchpophnkaaW.PrintMore
set_option linter.unusedVariables false
set_option linter.unusedSimpArgs false
theorem radius_f {fx fy fz kind tx ty tz cx cy rate : Int} (h1 : I64 fx) (h2 : I64 fy) (h5 : I64 cx) (h6 : I64 cy) :
    ∃ r, swarfref33_Radius.f fx fy fz kind tx ty tz cx cy rate = some r ∧ (near fx → near fy → near cx → near cy → r = ab (fx-cx) + ab (fy-cy)) := by
  unfold swarfref33_Radius.f swarfref33_size.f
  by_cases a : wrap64 (fx-cx) < 0
  · rw [if_pos a]
    by_cases b : wrap64 (fy-cy) < 0
    · rw [if_pos b]
      refine ⟨_, rfl, ?_⟩
      intro n1 n2 n3 n4
      unfold near at n1 n2 n3 n4
      have e1 : wrap64 (fx-cx) = fx-cx := w64 (by omega) (by omega)
      have e2 : wrap64 (fy-cy) = fy-cy := w64 (by omega) (by omega)
      rw [e1] at a ⊢; rw [e2] at b ⊢
      clear e1 e2
      unfold ab
      rw [if_pos a, if_pos b, w64 (x := -(fx-cx)) (by omega) (by omega), w64 (x := -(fy-cy)) (by omega) (by omega), w64 (by omega) (by omega)]
    · rw [if_neg b]
      refine ⟨_, rfl, ?_⟩
      intro n1 n2 n3 n4
      unfold near at n1 n2 n3 n4
      have e1 : wrap64 (fx-cx) = fx-cx := w64 (by omega) (by omega)
      have e2 : wrap64 (fy-cy) = fy-cy := w64 (by omega) (by omega)
      rw [e1] at a ⊢; rw [e2] at b ⊢
      clear e1 e2
      unfold ab
      rw [if_pos a, if_neg b, w64 (x := -(fx-cx)) (by omega) (by omega), w64 (by omega) (by omega)]
  · rw [if_neg a]
    by_cases b : wrap64 (fy-cy) < 0
    · rw [if_pos b]
      refine ⟨_, rfl, ?_⟩
      intro n1 n2 n3 n4
      unfold near at n1 n2 n3 n4
      have e1 : wrap64 (fx-cx) = fx-cx := w64 (by omega) (by omega)
      have e2 : wrap64 (fy-cy) = fy-cy := w64 (by omega) (by omega)
      rw [e1] at a ⊢; rw [e2] at b ⊢
      clear e1 e2
      unfold ab
      rw [if_neg a, if_pos b, w64 (x := -(fy-cy)) (by omega) (by omega), w64 (by omega) (by omega)]
    · rw [if_neg b]
      refine ⟨_, rfl, ?_⟩
      intro n1 n2 n3 n4
      unfold near at n1 n2 n3 n4
      have e1 : wrap64 (fx-cx) = fx-cx := w64 (by omega) (by omega)
      have e2 : wrap64 (fy-cy) = fy-cy := w64 (by omega) (by omega)
      rw [e1] at a ⊢; rw [e2] at b ⊢
      clear e1 e2
      unfold ab
      rw [if_neg a, if_neg b, w64 (by omega) (by omega)]

def Pos64 (p : S23) : Prop := I64 p.f0 ∧ I64 p.f1 ∧ I64 p.f2
def Move64 (m : S27) : Prop := Pos64 m.f1 ∧ I64 m.f2.f0 ∧ I64 m.f2.f1
theorem few_l0 (l : List S27) (hl : ∀ m ∈ l, Move64 m) (hn : l.length ≤ 1000000) (d : Nat) : ∀ (k i : Nat) (fx fy fz : Int), l.length - i = d → i ≤ l.length → d + 30 ≤ k → I64 fx → I64 fy → I64 fz →
    ∃ b, swarfref33_Few.l0 k l i fx fy fz = some b := by
  induction d with
  | zero =>
    intro k i fx fy fz h1 h2 h3 f1 f2 f3
    obtain ⟨k, rfl⟩ : ∃ m, k = m + 1 := ⟨k - 1, by omega⟩
    rw [swarfref33_Few.l0, if_neg (by omega)]
    exact ⟨_, rfl⟩
  | succ d ih =>
    intro k i fx fy fz h1 h2 h3 f1 f2 f3
    obtain ⟨k, rfl⟩ : ∃ m, k = m + 1 := ⟨k - 1, by omega⟩
    have hi : i < l.length := by omega
    have e2 : rd_T27 l (i:Int) = l[i] := by unfold rd_T27; simp [hi]
    obtain ⟨⟨m1, m2, m3⟩, m4, m5⟩ := hl l[i] (List.getElem_mem hi)
    have nx := ih k (i+1) l[i].f1.f0 l[i].f1.f1 l[i].f1.f2 (by omega) (by omega) (by omega) m1 m2 m3
    rw [show ((i+1 : Nat) : Int) = (i:Int)+1 by omega] at nx
    rw [swarfref33_Few.l0, if_pos (by omega), if_pos (by omega), w64 (x := (i:Int)+1) (by omega) (by omega), e2, rvalid_f k (by omega) f1 f2 m1 m2 m4 m5, arc_f]
    simp only [Option.bind_some, decide_eq_true_eq]
    split
    · split
      · obtain ⟨r, e, -⟩ := radius_f (fz := fz) (kind := l[i].f0) (tx := l[i].f1.f0) (ty := l[i].f1.f1) (tz := l[i].f1.f2) (rate := l[i].f3) f1 f2 m4 m5
        rw [e]
        simp only [Option.bind_some]
        split
        · exact ⟨_, rfl⟩
        · exact nx
      · exact nx
    · exact ⟨_, rfl⟩
theorem few_f (l : List S27) (hl : ∀ m ∈ l, Move64 m) (most : Int) (h0 : most ≤ 1000) (fx fy fz : Int) (f1 : I64 fx) (f2 : I64 fy) (f3 : I64 fz) (k : Nat) (hk : 2000 ≤ k) :
    ∃ b, swarfref33_Few.f k fx fy fz l most = some b ∧ (b = true → (l.length : Int) ≤ most) := by
  unfold swarfref33_Few.f
  by_cases a : (l.length : Int) > most
  · rw [if_pos a]; exact ⟨_, rfl, by simp⟩
  · rw [if_neg a]
    obtain ⟨b, e⟩ := few_l0 l hl (by omega) l.length k 0 fx fy fz (by omega) (by omega) (by omega) f1 f2 f3
    exact ⟨b, e, fun _ => by omega⟩

theorem few_one {fx fy fz kind tx ty tz cx cy rate : Int} (k : Nat) (hk : 2000 ≤ k) (h1 : I64 fx) (h2 : I64 fy) (h2z : I64 fz) (h3 : I64 tx) (h4 : I64 ty) (h4z : I64 tz) (h5 : I64 cx) (h6 : I64 cy) :
    ∃ b, swarfref33_Few.f k fx fy fz (([(⟨kind, (⟨tx, ty, tz⟩ : S23), (⟨cx, cy⟩ : S25), rate⟩ : S27)] : List (S27))) 1 = some b := by
  obtain ⟨b, e, -⟩ := few_f [(⟨kind, (⟨tx, ty, tz⟩ : S23), (⟨cx, cy⟩ : S25), rate⟩ : S27)] (by
    intro m hm
    simp only [List.mem_singleton] at hm
    subst hm
    exact ⟨⟨h3, h4, h4z⟩, h5, h6⟩) 1 (by omega) fx fy fz h1 h2 h2z k hk
  exact ⟨b, e⟩


end Go.Proofs.Ytblonchpophnkaa.Pure
