/- The law InterpolateInside, told of numbers alone. -/
import Derived.Test.YtblonchpophnkaaMathH
import Derived.Test.YtblonchpophnkaaMathF
import Derived.Test.YtblonchpophnkaaFx31
import Derived.OpenShut
namespace Go.Proofs.Ytblonchpophnkaa.Pure
open Go.RowKit Go.Proofs.Ytblonchpophnkaa.F Go.Proofs.YtblonchpophnkaaW.PrintWords Go.Proofs.YtblonchpophnkaaW.PrintLast Go.Proofs.YtblonchpophnkaaW.PrintMore
set_option linter.unusedVariables false
set_option linter.unusedSimpArgs false
theorem inside_l0 {r kind tx ty tz cx cy rate : Int} (L : List S23) (hr : 0 < r) (hr1 : r ≤ 10000000) (h1 : near cx) (h2 : near cy) (hl1 : 1 ≤ L.length) (hl2 : L.length ≤ 4000)
    (hin : ∀ p ∈ L, InR r cx cy p) (hlast : L.getD (L.length - 1) z23 = ⟨tx, ty, tz⟩) (d : Nat) :
    ∀ (k i : Nat), L.length - i = d → i ≤ L.length → d < k → swarflaw33_InterpolateInside.l0 k L 0 r L (L.length : Int) i kind tx ty tz cx cy rate = some true := by
  unfold near at h1 h2
  induction d with
  | zero =>
    intro k i e1 e2 e3
    obtain ⟨k, rfl⟩ : ∃ m, k = m + 1 := ⟨k - 1, by omega⟩
    rw [swarflaw33_InterpolateInside.l0, if_neg (by omega), if_pos rfl, if_pos (by omega), w64 (x := (L.length:Int) - 1) (by omega) (by omega), if_pos (by omega), if_pos (by omega)]
    have : rd_T23 L ((L.length:Int) - 1) = ⟨tx, ty, tz⟩ := by
      unfold rd_T23; rw [show ((L.length:Int) - 1).toNat = L.length - 1 by omega]; exact hlast
    rw [this]; simp
  | succ d ih =>
    intro k i e1 e2 e3
    obtain ⟨k, rfl⟩ : ∃ m, k = m + 1 := ⟨k - 1, by omega⟩
    have hi : i < L.length := by omega
    have er : rd_T23 L (i:Int) = L[i] := by unfold rd_T23; simp [hi]
    obtain ⟨b1, b2, b3, b4, b5⟩ := hin L[i] (List.getElem_mem hi)
    have nx := ih k (i+1) (by omega) (by omega) (by omega)
    rw [show ((i+1 : Nat) : Int) = (i:Int)+1 by omega] at nx
    rw [swarflaw33_InterpolateInside.l0, if_pos (by omega), if_pos (by omega), if_pos (by omega), er]
    generalize L[i].f0 = px at *
    generalize L[i].f1 = py at *
    have sx : 0 ≤ (px-cx)*(px-cx) := by
      rcases Int.le_total 0 (px-cx) with h | h
      · exact Int.mul_nonneg h h
      · have := Int.mul_nonneg (a := -(px-cx)) (b := -(px-cx)) (by omega) (by omega); rw [Int.neg_mul_neg] at this; exact this
    have sy : 0 ≤ (py-cy)*(py-cy) := by
      rcases Int.le_total 0 (py-cy) with h | h
      · exact Int.mul_nonneg h h
      · have := Int.mul_nonneg (a := -(py-cy)) (b := -(py-cy)) (by omega) (by omega); rw [Int.neg_mul_neg] at this; exact this
    have rr := sq_le (a := r) (b := 10000000) (by omega) (by omega)
    rw [w64 (x := px - cx) (by omega) (by omega), w64 (x := py - cy) (by omega) (by omega), w64 (x := -r) (by omega) (by omega), if_neg (by omega), if_neg (by omega), if_neg (by omega), if_neg (by omega),
      w64 (x := (px-cx)*(px-cx)) (by omega) (by omega), w64 (x := (py-cy)*(py-cy)) (by omega) (by omega), w64 (x := (px-cx)*(px-cx) + (py-cy)*(py-cy)) (by omega) (by omega), w64 (x := r*r) (by omega) (by omega), if_neg (by omega), w64 (x := (i:Int)+1) (by omega) (by omega)]
    exact nx

theorem law_inside {fx fy fz kind tx ty tz cx cy rate : Int} (h1 : I64 fx) (h2 : I64 fy) (h2z : I64 fz) (h3 : I64 tx) (h4 : I64 ty) (h4z : I64 tz) (h5 : I64 cx) (h6 : I64 cy) :
    swarflaw33_InterpolateInside.f 7000 fx fy fz kind tx ty tz cx cy rate = some true := by
  unfold swarflaw33_InterpolateInside.f
  obtain ⟨b, e⟩ := few_one (kind := kind) (rate := rate) 7000 (by omega) h1 h2 h2z h3 h4 h4z h5 h6
  rw [awake_at 7000 (by omega), e]
  simp only [Option.bind_some, if_true]
  cases b with
  | false =>
    rw [swarflaw33_InterpolateInside.j0, if_pos (by rfl), awake_at _ (by omega)]; rfl
  | true =>
    rw [swarflaw33_InterpolateInside.j0, if_neg (by decide), Arc_f _ (by omega) h1 h2 h2z h3 h4 h4z h5 h6, rquarters_f _ (by omega) h1 h2 h3 h4 h5 h6]
    simp only [Option.bind_some]
    unfold arcR quartersR
    by_cases a : isarc kind
    · simp only [if_pos a]
      by_cases v : validS fx fy fz kind tx ty tz cx cy rate = 0
      · simp only [if_pos v, if_true]
        obtain ⟨o, e, r4, c1, c2, rr⟩ := validS_ok_arc v a
        obtain ⟨r, er, her⟩ := radius_f (fz := fz) (kind := kind) (tx := tx) (ty := ty) (tz := tz) (rate := rate) h1 h2 h5 h6
        have := her e.1 e.2.1 c1 c2
        subst this
        rw [er]
        simp only [Option.bind_some]
        obtain ⟨hl, hl2, hl1⟩ := arcL_length v a
        obtain ⟨hin, hlast⟩ := arcL_in v a
        exact inside_l0 (arcL fx fy fz kind tx ty tz cx cy) (by have := (qd_on o.2.2.1).2.2; omega) rr c1 c2 hl1 hl2 hin hlast (arcL fx fy fz kind tx ty tz cx cy).length _ 0 (by omega) (by omega) (by omega)
      · simp only [if_neg v, if_true]; rfl
    · simp only [if_neg a]
      rw [if_neg (by omega), if_pos (by trivial)]; rfl


end Go.Proofs.Ytblonchpophnkaa.Pure
