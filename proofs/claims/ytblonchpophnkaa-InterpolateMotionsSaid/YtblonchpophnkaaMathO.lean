/- Plain facts: wrapped numbers, and that Chords of the program finds the least n. The radius is from 1 to 2^40. -/
import Derived.Test.YtblonchpophnkaaFx2
import Derived.Test.YtblonchpophnkaaFx13
import Derived.OpenShut
namespace Go.Proofs.Ytblonchpophnkaa.Pure
open Go.RowKit Go.Proofs.Ytblonchpophnkaa.F Go.Proofs.YtblonchpophnkaaW.PrintWords Go.Proofs.YtblonchpophnkaaW.PrintLast Go.Proofs.YtblonchpophnkaaW.PrintMore
set_option linter.unusedVariables false
set_option linter.unusedSimpArgs false
theorem w64 {x : Int} (h1 : -9223372036854775808 ≤ x) (h2 : x ≤ 9223372036854775807) : wrap64 x = x := by
  unfold wrap64; omega
theorem sq_le {a b : Int} (ha : 0 ≤ a) (h : a ≤ b) : a*a ≤ b*b := Int.mul_le_mul h h ha (by omega)

/-- what Chords tells: the least n -/
def IsChords (need r : Int) : Prop := 1 ≤ r ∧ need ≤ r*r ∧ (r = 1 ∨ (r-1)*(r-1) < need)

theorem chords_l0 (need : Int) (d : Nat) : ∀ (k : Nat) (lo hi : Int), 1 ≤ lo → lo ≤ hi → hi ≤ 1073741824 → hi - lo < 2^d → d < k →
    need ≤ hi*hi → (lo = 1 ∨ (lo-1)*(lo-1) < need) → ∃ r, interpolate_Chords.l0 k need lo hi = some r ∧ IsChords need r ∧ lo ≤ r ∧ r ≤ hi := by
  induction d with
  | zero =>
    intro k lo hi h1 h2 h3 hd hk hh hl
    obtain ⟨k, rfl⟩ : ∃ m, k = m + 1 := ⟨k - 1, by omega⟩
    obtain rfl : lo = hi := by omega
    exact ⟨lo, by simp only [interpolate_Chords.l0]; rw [if_neg (by omega)], ⟨h1, hh, hl⟩, by omega, by omega⟩
  | succ d ih =>
    intro k lo hi h1 h2 h3 hd hk hh hl
    obtain ⟨k, rfl⟩ : ∃ m, k = m + 1 := ⟨k - 1, by omega⟩
    by_cases hlt : lo < hi
    · have e1 : wrap64 (lo + hi) = lo + hi := w64 (by omega) (by omega)
      have e2 : Int.tdiv (lo+hi) 2 = (lo+hi)/2 := Int.tdiv_eq_ediv_of_nonneg (by omega)
      have e3 : wrap64 ((lo+hi)/2) = (lo+hi)/2 := w64 (by omega) (by omega)
      generalize hm : (lo+hi)/2 = m at *
      have m1 : lo ≤ m := by omega
      have m2 : m < hi := by omega
      have mm : m*m ≤ 1073741824*1073741824 := sq_le (by omega) (by omega)
      have mm0 : 0 ≤ m*m := Int.mul_nonneg (by omega) (by omega)
      have e4 : wrap64 (m*m) = m*m := w64 (by omega) (by omega)
      have e5 : wrap64 (m+1) = m+1 := w64 (by omega) (by omega)
      have p2 : (2:Int)^(d+1) = 2*2^d := by rw [Int.pow_succ]; omega
      simp only [interpolate_Chords.l0]
      rw [if_pos hlt, e1, e2, e3, e4, e5]
      by_cases hc : m*m ≥ need
      · rw [if_pos hc]
        obtain ⟨r, a, b, c, e⟩ := ih k lo m h1 m1 (by omega) (by omega) (by omega) hc hl
        exact ⟨r, a, b, c, by omega⟩
      · rw [if_neg hc]
        obtain ⟨r, a, b, c, e⟩ := ih k (m+1) hi (by omega) (by omega) h3 (by omega) (by omega) hh (.inr (by rw [show m + 1 - 1 = m by omega]; omega))
        exact ⟨r, a, b, by omega, e⟩
    · obtain rfl : lo = hi := by omega
      exact ⟨lo, by simp only [interpolate_Chords.l0]; rw [if_neg (by omega)], ⟨h1, hh, hl⟩, by omega, by omega⟩

theorem chords_f (r : Int) (k : Nat) (hk : 31 ≤ k) (h0 : 0 < r) (h1 : r ≤ 1099511627776) :
    ∃ n, interpolate_Chords.f k r = some n ∧ 1 ≤ n ∧ n < 33554432 ∧ r ≤ 10*(n*n) ∧ (n = 1 ∨ 10*((n-1)*(n-1)) < r) := by
  have e1 : wrap64 (r-1) = r-1 := w64 (by omega) (by omega)
  have e2 : Int.tdiv (r-1) 10 = (r-1)/10 := Int.tdiv_eq_ediv_of_nonneg (by omega)
  have e3 : wrap64 ((r-1)/10) = (r-1)/10 := w64 (by omega) (by omega)
  have e4 : wrap64 ((r-1)/10+1) = (r-1)/10+1 := w64 (by omega) (by omega)
  obtain ⟨n, a, ⟨b1, b2, b3⟩, c, d⟩ := chords_l0 ((r-1)/10+1) 30 k 1 1073741824 (by omega) (by omega) (by omega) (by decide) (by omega) (by omega) (.inl rfl)
  refine ⟨n, ?_, b1, ?_, by omega, by omega⟩
  · unfold interpolate_Chords.f
    rw [if_neg (by omega), e1, e2, e3, e4]; exact a
  · rcases b3 with b3 | b3
    · omega
    · by_cases hn : n < 33554432
      · exact hn
      · have := sq_le (a := 33554431) (b := n-1) (by omega) (by omega)
        omega



theorem awake100 : swarflaw33_awake.f 100 = some true := by decide +kernel
theorem awake_at (k : Nat) (hk : 100 ≤ k) : swarflaw33_awake.f k = some true := at_rounds swarflaw33_awake.mono hk awake100

end Go.Proofs.Ytblonchpophnkaa.Pure
