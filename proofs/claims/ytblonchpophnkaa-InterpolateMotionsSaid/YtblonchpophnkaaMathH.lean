/- Plain facts: the ends of chords lie within the radius, and the last one is where the move ends. -/
import Derived.Test.YtblonchpophnkaaMathS
import Derived.OpenShut
namespace Go.Proofs.Ytblonchpophnkaa.Pure
open Go.RowKit Go.Proofs.Ytblonchpophnkaa.F Go.Proofs.YtblonchpophnkaaW.PrintWords Go.Proofs.YtblonchpophnkaaW.PrintLast Go.Proofs.YtblonchpophnkaaW.PrintMore
set_option linter.unusedVariables false
set_option linter.unusedSimpArgs false
/-- an axis point is at its quarter's place -/
theorem qd_inv {x y : Int} (h : onq x y) : ((qd x y).1 = 0 ∧ x = (qd x y).2 ∧ y = 0) ∨ ((qd x y).1 = 1 ∧ x = 0 ∧ y = (qd x y).2) ∨
    ((qd x y).1 = 2 ∧ x = -(qd x y).2 ∧ y = 0) ∨ ((qd x y).1 = 3 ∧ x = 0 ∧ y = -(qd x y).2) := by
  unfold onq at h; unfold qd
  by_cases a : 0 < x ∧ y = 0
  · rw [if_pos a]; exact .inl ⟨rfl, rfl, a.2⟩
  · rw [if_neg a]
    by_cases b : x = 0 ∧ 0 < y
    · rw [if_pos b]; exact .inr (.inl ⟨rfl, b.1, rfl⟩)
    · rw [if_neg b]
      by_cases c : x < 0 ∧ y = 0
      · rw [if_pos c]; exact .inr (.inr (.inl ⟨rfl, (Int.neg_neg x).symm, c.2⟩))
      · rw [if_neg c, if_pos (by omega)]; exact .inr (.inr (.inr ⟨rfl, by omega, (Int.neg_neg y).symm⟩))

theorem quartersS_eq (fx fy kind tx ty cx cy : Int) : quartersS fx fy kind tx ty cx cy =
    if (if kind = 3 then (qd (fx-cx) (fy-cy)).1 - (qd (tx-cx) (ty-cy)).1 else (qd (tx-cx) (ty-cy)).1 - (qd (fx-cx) (fy-cy)).1) ≤ 0
    then (if kind = 3 then (qd (fx-cx) (fy-cy)).1 - (qd (tx-cx) (ty-cy)).1 else (qd (tx-cx) (ty-cy)).1 - (qd (fx-cx) (fy-cy)).1) + 4
    else (if kind = 3 then (qd (fx-cx) (fy-cy)).1 - (qd (tx-cx) (ty-cy)).1 else (qd (tx-cx) (ty-cy)).1 - (qd (fx-cx) (fy-cy)).1) := rfl

theorem ch_sq {r n k : Int} (hr : 0 ≤ r) (hn : 1 ≤ n) (hk : 0 ≤ k) (hkn : k ≤ n) : chX r n k * chX r n k + chY r n k * chY r n k ≤ r*r := by
  have b := ch_bounds hr hn hk hkn
  have nn : 1 ≤ n*n := by have := Int.mul_le_mul hn hn (by omega) (by omega); omega
  have kk : 0 ≤ k*k := Int.mul_nonneg hk hk
  have kn : k*k ≤ n*n := sq_le hk hkn
  have dp : 0 < n*n + k*k := by omega
  have x1 : chX r n k * (n*n+k*k) ≤ r*(n*n-k*k) := Int.ediv_mul_le _ (by omega)
  have y1 : chY r n k * (n*n+k*k) ≤ 2*r*k*n := Int.ediv_mul_le _ (by omega)
  generalize chX r n k = X at *
  generalize chY r n k = Y at *
  have x2 := sq_le (Int.mul_nonneg b.1 (show (0:Int) ≤ n*n+k*k by omega)) x1
  have y2 := sq_le (Int.mul_nonneg b.2.2.1 (show (0:Int) ≤ n*n+k*k by omega)) y1
  have e1 : X*(n*n+k*k)*(X*(n*n+k*k)) + Y*(n*n+k*k)*(Y*(n*n+k*k)) = (X*X+Y*Y)*((n*n+k*k)*(n*n+k*k)) := by grind
  have e2 : r*(n*n-k*k)*(r*(n*n-k*k)) + 2*r*k*n*(2*r*k*n) = (r*r)*((n*n+k*k)*(n*n+k*k)) := by grind
  have dd : 0 < (n*n+k*k)*(n*n+k*k) := Int.mul_pos dp dp
  exact Int.le_of_mul_le_mul_right (by omega) dd

theorem rot_sq (x y t : Int) : (rot x y t).1 * (rot x y t).1 + (rot x y t).2 * (rot x y t).2 = x*x + y*y := by
  unfold rot
  split
  · rfl
  · split
    · simp only; grind
    · split <;> (simp only; grind)

/-- what is told of each position of an arc -/
theorem arcAt_in {s r n q fz tz cx cy kind : Int} (h : ArcOk s r n q fz tz cx cy) (m : Nat) (hm : (m : Int) < n*q) :
    let p := arcAt s r n kind fz tz cx cy (n*q) m
    (-r ≤ p.f0 - cx) ∧ p.f0 - cx ≤ r ∧ -r ≤ p.f1 - cy ∧ p.f1 - cy ≤ r ∧ (p.f0-cx)*(p.f0-cx) + (p.f1-cy)*(p.f1-cy) ≤ r*r := by
  intro p
  obtain ⟨s0, s3, r0, r1, n1, n2, q1, q4, -, -, -, -⟩ := h
  have mlo := Int.emod_nonneg (m:Int) (show n ≠ 0 by omega)
  have mhi := Int.emod_lt_of_pos (m:Int) (show 0 < n by omega)
  have b := ch_bounds (r := r) (n := n) (k := (m:Int) % n + 1) (by omega) n1 (by omega) (by omega)
  have sq := ch_sq (r := r) (n := n) (k := (m:Int) % n + 1) (by omega) n1 (by omega) (by omega)
  show (-r ≤ (arcAt s r n kind fz tz cx cy (n*q) m).f0 - cx) ∧ _
  unfold p arcAt
  simp only []
  generalize chX r n ((m:Int) % n + 1) = X at *
  generalize chY r n ((m:Int) % n + 1) = Y at *
  have e1 : ∀ u : Int, cx + u - cx = u := by intro u; omega
  have e2 : ∀ u : Int, cy + u - cy = u := by intro u; omega
  rw [e1, e2]
  by_cases c : kind = 3
  · simp only [if_pos c]
    have rb := rot_bounds (t := (s + 3*((m:Int)/n))%4) (B := r) (x := X) (y := -Y) (by omega) (by omega) (by omega) (by omega)
    have rs := rot_sq X (-Y) ((s + 3*((m:Int)/n))%4)
    have : -Y * -Y = Y*Y := by grind
    omega
  · simp only [if_neg c]
    have rb := rot_bounds (t := (s + ((m:Int)/n))%4) (B := r) (x := X) (y := Y) (by omega) (by omega) (by omega) (by omega)
    have rs := rot_sq X Y ((s + ((m:Int)/n))%4)
    omega

theorem ch_end {r n : Int} (hn : 1 ≤ n) : chX r n n = 0 ∧ chY r n n = r := by
  have nn : 1 ≤ n*n := by have := Int.mul_le_mul hn hn (by omega) (by omega); omega
  unfold chX chY
  constructor
  · rw [Int.sub_self, Int.mul_zero, Int.zero_ediv]
  · have e : 2*r*n*n = r*(n*n+n*n) := by grind
    rw [e]; exact Int.mul_ediv_cancel _ (by omega)

/-- the last position is where the arc ends -/
theorem arcAt_last {fx fy fz kind tx ty tz cx cy rate : Int} (v : validS fx fy fz kind tx ty tz cx cy rate = 0) (a : isarc kind) (m : Nat)
    (hm : (m : Int) + 1 = chN (ab (fx-cx) + ab (fy-cy)) * quartersS fx fy kind tx ty cx cy) :
    arcAt (qd (fx-cx) (fy-cy)).1 (ab (fx-cx) + ab (fy-cy)) (chN (ab (fx-cx) + ab (fy-cy))) kind fz tz cx cy (chN (ab (fx-cx) + ab (fy-cy)) * quartersS fx fy kind tx ty cx cy) m = ⟨tx, ty, tz⟩ := by
  have ok := arcOk_of v a
  obtain ⟨o, -⟩ := validS_ok_arc v a
  have P := qd_inv o.2.2.1
  have Q := qd_inv o.2.2.2.1
  have P' := qd_on o.2.2.1
  have Q' := qd_on o.2.2.2.1
  have er := o.2.2.2.2
  have qs := quartersS_eq fx fy kind tx ty cx cy
  rw [P'.2.2.1] at P P'
  rw [Q'.2.2.1, ← er] at Q Q'
  generalize quartersS fx fy kind tx ty cx cy = q at *
  generalize ab (fx-cx) + ab (fy-cy) = r at *
  generalize (qd (fx-cx) (fy-cy)).1 = s at *
  generalize (qd (tx-cx) (ty-cy)).1 = e at *
  have hN := chN_le P'.2.2.2 ok.r1
  generalize chN r = n at *
  have hm2 : (m : Int) = (q-1)*n + (n-1) := by
    have e1 : (q-1)*n = n*q - n := by grind
    omega
  obtain ⟨-, -, e1, e2, el⟩ := arc_elem (kind := kind) ok (q-1) n m (by have := ok.q1; omega) (by omega) hN.1 (by omega) hm2
  rw [el, (ch_end hN.1).1, (ch_end hN.1).2, hm]
  have pos : n*q ≠ 0 := by omega
  rw [Int.mul_ediv_cancel _ pos]
  have fin : (if kind = 3 then rot 0 (-r) ((s + 3*(q-1)) % 4) else rot 0 r ((s + (q-1)) % 4)) = (tx - cx, ty - cy) := by
    by_cases c : kind = 3
    · simp only [if_pos c] at qs ⊢
      have t : (s + 3*(q-1)) % 4 = (e+1) % 4 := by split at qs <;> omega
      rw [t]
      rcases Q with ⟨rfl, q1, q2⟩ | ⟨rfl, q1, q2⟩ | ⟨rfl, q1, q2⟩ | ⟨rfl, q1, q2⟩ <;> simp [rot, q1, q2]
    · simp only [if_neg c] at qs ⊢
      have t : (s + (q-1)) % 4 = (e+3) % 4 := by split at qs <;> omega
      rw [t]
      rcases Q with ⟨rfl, q1, q2⟩ | ⟨rfl, q1, q2⟩ | ⟨rfl, q1, q2⟩ | ⟨rfl, q1, q2⟩ <;> simp [rot, q1, q2]
  rw [fin]
  simp only [S23.mk.injEq]
  omega
def InR (r cx cy : Int) (p : S23) : Prop := (-r ≤ p.f0 - cx) ∧ p.f0 - cx ≤ r ∧ -r ≤ p.f1 - cy ∧ p.f1 - cy ≤ r ∧ (p.f0-cx)*(p.f0-cx) + (p.f1-cy)*(p.f1-cy) ≤ r*r

theorem arcL_in {fx fy fz kind tx ty tz cx cy rate : Int} (v : validS fx fy fz kind tx ty tz cx cy rate = 0) (a : isarc kind) :
    (∀ p ∈ arcL fx fy fz kind tx ty tz cx cy, InR (ab (fx-cx) + ab (fy-cy)) cx cy p) ∧
    (arcL fx fy fz kind tx ty tz cx cy).getD ((arcL fx fy fz kind tx ty tz cx cy).length - 1) z23 = ⟨tx, ty, tz⟩ := by
  have ok := arcOk_of v a
  obtain ⟨hl, hl2, hl1⟩ := arcL_length v a
  constructor
  · intro p hp
    unfold arcL AL at hp
    rw [List.mem_map] at hp
    obtain ⟨m, hm, rfl⟩ := hp
    rw [List.mem_range] at hm
    exact arcAt_in ok m (by omega)
  · have last := arcAt_last v a ((arcL fx fy fz kind tx ty tz cx cy).length - 1) (by omega)
    generalize hm : (arcL fx fy fz kind tx ty tz cx cy).length - 1 = m at *
    unfold arcL AL
    have : m < (chN (ab (fx-cx) + ab (fy-cy)) * quartersS fx fy kind tx ty cx cy).toNat := by omega
    simp only [List.getD_eq_getElem?_getD, List.getElem?_map, List.getElem?_range this, Option.map_some, Option.getD_some]
    exact last


end Go.Proofs.Ytblonchpophnkaa.Pure
