/- Plain facts: the length of a motion, its limits, its plans and its positions. -/
import Derived.Test.YtmaegpblaihepaaMb
import Derived.Test.YtmaegpblaihepaaFx19
import Derived.Test.YtmaegpblaihepaaFx22
import Derived.Test.YtmaegpblaihepaaPos
import Derived.Test.YtmaegpblaihepaaSqr
namespace Go.Proofs.Ytmaegpblaihepaa.Pure
open Go.RowKit Go.Proofs.Ytmaegpblaihepaa.F Go.Proofs.YtmaegpblaihepaaW.PrintWords Go.Proofs.YtmaegpblaihepaaW.PrintLast Go.Proofs.YtmaegpblaihepaaW.PrintMore
set_option linter.unusedVariables false
set_option linter.unusedSimpArgs false
/-- the loop upwards -/
theorem len_up (x : Int) (hx : x ≤ 2000000) (d : Nat) : ∀ (n : Int), 0 ≤ n → (n = 0 ∨ (n-1)*(n-1) < x) → 1500 - n ≤ d → n ≤ 4194304 →
    ∃ (r : Int) (K : Nat), (∀ k, K ≤ k → controller_length.l1 k x n = some r) ∧ 0 ≤ r ∧ x ≤ r*r ∧ (r = 0 ∨ (r-1)*(r-1) < x) := by
  induction d with
  | zero =>
    intro n h0 h1 h2 h3
    have a : 1500*1500 ≤ n*n := Int.mul_le_mul (by omega) (by omega) (by omega) (by omega)
    have b : n*n ≤ 4194304*4194304 := Int.mul_le_mul (by omega) (by omega) (by omega) (by omega)
    refine ⟨n, 1, fun k hk => ?_, h0, by omega, h1⟩
    obtain ⟨k, rfl⟩ : ∃ m, k = m + 1 := ⟨k - 1, by omega⟩
    rw [controller_length.l1, w64 (x := n*n) (by omega) (by omega), if_neg (by omega)]
  | succ d ih =>
    intro n h0 h1 h2 h3
    have b : n*n ≤ 4194304*4194304 := Int.mul_le_mul (by omega) (by omega) (by omega) (by omega)
    have b0 : 0 ≤ n*n := Int.mul_nonneg h0 h0
    by_cases c : n*n < x
    · have hn : n < 1500 := by
        rcases Int.lt_or_le n 1500 with h | h
        · exact h
        · have := Int.mul_le_mul h h (show (0:Int) ≤ 1500 by omega) (by omega); omega
      obtain ⟨r, K, r1, r2⟩ := ih (n+1) (by omega) (.inr (by rw [show n + 1 - 1 = n by omega]; exact c)) (by omega) (by omega)
      refine ⟨r, K + 1, fun k hk => ?_, r2⟩
      obtain ⟨k, rfl⟩ : ∃ m, k = m + 1 := ⟨k - 1, by omega⟩
      rw [controller_length.l1, w64 (x := n*n) (by omega) (by omega), if_pos c, w64 (x := n+1) (by omega) (by omega)]
      exact r1 k (by omega)
    · refine ⟨n, 1, fun k hk => ?_, h0, by omega, h1⟩
      obtain ⟨k, rfl⟩ : ∃ m, k = m + 1 := ⟨k - 1, by omega⟩
      rw [controller_length.l1, w64 (x := n*n) (by omega) (by omega), if_neg c]
/-- both loops -/
theorem len_down (x : Int) (hx : x ≤ 2000000) (d : Nat) : ∀ (n : Int), 0 ≤ n → n ≤ d → n ≤ 4194304 →
    ∃ (r : Int) (K : Nat), (∀ k, K ≤ k → controller_length.l0 k x n = some r) ∧ 0 ≤ r ∧ x ≤ r*r ∧ (r = 0 ∨ (r-1)*(r-1) < x) := by
  induction d with
  | zero =>
    intro n h0 h1 h2
    obtain ⟨r, K, r1, r2⟩ := len_up x hx (1500 - n).toNat n h0 (.inl (by omega)) (by omega) h2
    refine ⟨r, K + 2, fun k hk => ?_, r2⟩
    obtain ⟨k, rfl⟩ : ∃ m, k = m + 2 := ⟨k - 2, by omega⟩
    rw [controller_length.l0, if_neg (by omega), controller_length.j1]
    exact r1 k (by omega)
  | succ d ih =>
    intro n h0 h1 h2
    by_cases c : n > 0
    · have b : (n-1)*(n-1) ≤ 4194304*4194304 := Int.mul_le_mul (by omega) (by omega) (by omega) (by omega)
      have b0 : 0 ≤ (n-1)*(n-1) := Int.mul_nonneg (by omega) (by omega)
      by_cases e : (n-1)*(n-1) ≥ x
      · obtain ⟨r, K, r1, r2⟩ := ih (n-1) (by omega) (by omega) (by omega)
        refine ⟨r, K + 1, fun k hk => ?_, r2⟩
        obtain ⟨k, rfl⟩ : ∃ m, k = m + 1 := ⟨k - 1, by omega⟩
        rw [controller_length.l0, if_pos c, w64 (x := n-1) (by omega) (by omega), w64 (x := (n-1)*(n-1)) (by omega) (by omega), if_pos e]
        exact r1 k (by omega)
      · obtain ⟨r, K, r1, r2⟩ := len_up x hx (1500 - n).toNat n h0 (.inr (by omega)) (by omega) h2
        refine ⟨r, K + 2, fun k hk => ?_, r2⟩
        obtain ⟨k, rfl⟩ : ∃ m, k = m + 2 := ⟨k - 2, by omega⟩
        rw [controller_length.l0, if_pos c, w64 (x := n-1) (by omega) (by omega), w64 (x := (n-1)*(n-1)) (by omega) (by omega), if_neg e, controller_length.j1]
        exact r1 k (by omega)
    · obtain ⟨r, K, r1, r2⟩ := len_up x hx (1500 - n).toNat n h0 (.inl (by omega)) (by omega) h2
      refine ⟨r, K + 2, fun k hk => ?_, r2⟩
      obtain ⟨k, rfl⟩ : ∃ m, k = m + 2 := ⟨k - 2, by omega⟩
      rw [controller_length.l0, if_neg c, controller_length.j1]
      exact r1 k (by omega)
/-- a short motion within bounds -/
structure Okm (m : S55) : Prop where
  x0 : -1000000 ≤ m.f0.f0 ∧ m.f0.f0 ≤ 1000000
  y0 : -1000000 ≤ m.f0.f1 ∧ m.f0.f1 ≤ 1000000
  z0 : -1000000 ≤ m.f0.f2 ∧ m.f0.f2 ≤ 1000000
  dx : -600 ≤ m.f1.f0 - m.f0.f0 ∧ m.f1.f0 - m.f0.f0 ≤ 600
  dy : -600 ≤ m.f1.f1 - m.f0.f1 ∧ m.f1.f1 - m.f0.f1 ≤ 600
  dz : -600 ≤ m.f1.f2 - m.f0.f2 ∧ m.f1.f2 - m.f0.f2 ≤ 600
  rate : 0 ≤ m.f2 ∧ m.f2 ≤ 1000000000
def lenf (k : Nat) (m : S55) : Option Int := controller_length.f k m.f0.f0 m.f0.f1 m.f0.f2 m.f1.f0 m.f1.f1 m.f1.f2 m.f2 m.f3 m.f4
/-- n is the length of m -/
structure Len (m : S55) (n : Int) : Prop where
  f : ∃ K, ∀ k, K ≤ k → lenf k m = some n
  lo : 0 ≤ n
  hi : n ≤ 1500
  z : n = 0 → m.f0 = m.f1
  p : n ≠ 0 → m.f0 ≠ m.f1
theorem sq_b {d : Int} (h1 : -600 ≤ d) (h2 : d ≤ 600) : 0 ≤ d*d ∧ d*d ≤ 360000 ∧ (d*d = 0 → d = 0) := by
  rcases Int.le_total 0 d with h | h
  · refine ⟨Int.mul_nonneg h h, ?_, fun e => ?_⟩
    · have := Int.mul_le_mul h2 h2 h (show (0:Int) ≤ 600 by omega); omega
    · rcases Int.mul_eq_zero.1 e with e | e <;> exact e
  · have e : d*d = (-d)*(-d) := by rw [Int.neg_mul_neg]
    refine ⟨by rw [e]; exact Int.mul_nonneg (by omega) (by omega), ?_, fun e => ?_⟩
    · have := Int.mul_le_mul (show -d ≤ 600 by omega) (show -d ≤ 600 by omega) (by omega) (show (0:Int) ≤ 600 by omega); omega
    · rcases Int.mul_eq_zero.1 e with e | e <;> exact e
theorem len_ex {m : S55} (h : Okm m) : ∃ n, Len m n := by
  obtain ⟨hx, hy, hz, dx, dy, dz, -⟩ := h
  obtain ⟨sx1, sx2, sx3⟩ := sq_b dx.1 dx.2
  obtain ⟨sy1, sy2, sy3⟩ := sq_b dy.1 dy.2
  obtain ⟨sz1, sz2, sz3⟩ := sq_b dz.1 dz.2
  obtain ⟨X, hX⟩ : ∃ X, (m.f1.f0 - m.f0.f0) * (m.f1.f0 - m.f0.f0) = X := ⟨_, rfl⟩
  obtain ⟨Y, hY⟩ : ∃ Y, (m.f1.f1 - m.f0.f1) * (m.f1.f1 - m.f0.f1) = Y := ⟨_, rfl⟩
  obtain ⟨Z, hZ⟩ : ∃ Z, (m.f1.f2 - m.f0.f2) * (m.f1.f2 - m.f0.f2) = Z := ⟨_, rfl⟩
  rw [hX] at sx1 sx2 sx3
  rw [hY] at sy1 sy2 sy3
  rw [hZ] at sz1 sz2 sz3
  obtain ⟨n0, e0, g1, g2⟩ := fsq_small (X + Y + Z) (by omega) (by omega)
  obtain ⟨r, K, r1, r2, r3, r4⟩ := len_down (X + Y + Z) (by omega) n0.toNat n0 g1 (by omega) g2
  refine ⟨r, ⟨⟨K, fun k hk => ?_⟩, r2, ?_, fun e => ?_, fun e he => ?_⟩⟩
  · unfold lenf controller_length.f
    rw [w64 (x := m.f1.f0 - m.f0.f0) (by omega) (by omega), w64 (x := m.f1.f1 - m.f0.f1) (by omega) (by omega), w64 (x := m.f1.f2 - m.f0.f2) (by omega) (by omega), hX, hY, hZ,
      w64 (x := X) (by omega) (by omega), w64 (x := Y) (by omega) (by omega), w64 (x := Z) (by omega) (by omega), w64 (x := X + Y) (by omega) (by omega), w64 (x := X + Y + Z) (by omega) (by omega), e0]
    exact r1 k hk
  · rcases r4 with r4 | r4
    · omega
    · rcases Int.lt_or_le 1500 r with h | h
      · have := Int.mul_le_mul (show 1500 ≤ r - 1 by omega) (show 1500 ≤ r - 1 by omega) (show (0:Int) ≤ 1500 by omega) (by omega); omega
      · exact h
  · subst e
    have a := sx3 (by omega)
    have b := sy3 (by omega)
    have c := sz3 (by omega)
    rcases m with ⟨⟨a0, a1, a2⟩, ⟨b0, b1, b2⟩, _, _, _⟩
    dsimp only at a b c ⊢
    rw [S42.mk.injEq]
    omega
  · rw [← he] at hX hY hZ
    simp only [Int.sub_self, Int.mul_zero] at hX hY hZ
    subst hX hY hZ
    rcases r4 with r4 | r4
    · exact e r4
    · have := Int.mul_nonneg (show 0 ≤ r - 1 by omega) (show 0 ≤ r - 1 by omega); omega
open Classical in
noncomputable def ln (m : S55) : Int := if h : ∃ n, Len m n then h.choose else 0
theorem ln_ok {m : S55} (h : Okm m) : Len m (ln m) := by
  have e := len_ex h
  unfold ln
  rw [dif_pos e]
  exact e.choose_spec
/-- the limits of a motion -/
theorem lim_ex {m : S55} (h : Okm m) {sp ac je : Int} (o : okL sp ac je) : ∃ r, controller_limit.f m.f0.f0 m.f0.f1 m.f0.f2 m.f1.f0 m.f1.f1 m.f1.f2 m.f2 m.f3 m.f4 sp ac je = some (r, ac, je) ∧ okL r ac je := by
  have hr := h.rate
  unfold controller_limit.f
  by_cases c : m.f2 > 0
  · rw [if_pos c, w64 (x := m.f2 - 1) (by omega) (by omega), Int.tdiv_eq_ediv_of_nonneg (by omega), w64 (x := (m.f2 - 1) / 1000) (by omega) (by omega), w64 (x := (m.f2 - 1) / 1000 + 1) (by omega) (by omega)]
    refine ⟨_, rfl, ?_⟩
    have := mn_eq sp ((m.f2 - 1) / 1000 + 1)
    unfold okL at o ⊢
    omega
  · rw [if_neg c]; exact ⟨_, rfl, o⟩
/-- a plan -/
theorem plan_ex {S A J n : Int} (o : okL S A J) (h0 : 0 < n) (h1 : n ≤ 1500) : ∃ (L : List Int) (K : Nat), (∀ k, K ≤ k → profile_Steps.f k n S A J = some (L, 0)) ∧ L.sum = n ∧ (∀ x ∈ L, 0 < x) ∧ L ≠ [] ∧ L.length ≤ 3000 := by
  have u := simU_ok o
  have q : (n + simU S A J - 1) / simU S A J ≤ 3000 := by
    have e : n + simU S A J - 1 ≤ n * simU S A J := by
      have := Int.mul_le_mul_of_nonneg_left (show 1 ≤ simU S A J by omega) (show 0 ≤ n - 1 by omega)
      have e2 : (n - 1) * simU S A J = n * simU S A J - simU S A J := by rw [Int.sub_mul, Int.one_mul]
      omega
    have := Int.ediv_le_of_le_mul (show 0 < simU S A J by omega) e
    omega
  obtain ⟨L, K, p1, p2, p3, p4, -⟩ := steps_f o ⟨by omega, by omega⟩ q
  refine ⟨L, K, p1, p2, p3, ?_, by omega⟩
  intro e
  subst e
  simp at p2
  omega
theorem at_len {f t len : Int} (h : 1 ≤ len) : Hand.at_ f t len len = t := by
  unfold Hand.at_
  have e : 2*(t-f)*len + len = len + (t-f)*(2*len) := by grind
  rw [e, Int.add_mul_ediv_right _ _ (by omega), Int.ediv_eq_zero_of_lt (by omega) (by omega)]
  omega
/-- the position on a motion -/
def posM (m : S55) (n part : Int) : S42 := ⟨Hand.at_ m.f0.f0 m.f1.f0 part n, Hand.at_ m.f0.f1 m.f1.f1 part n, Hand.at_ m.f0.f2 m.f1.f2 part n⟩
theorem posM_end {m : S55} {n : Int} (h : 0 < n) : posM m n n = m.f1 := by
  unfold posM
  rw [at_len (by omega), at_len (by omega), at_len (by omega)]
theorem posS_of {m : S55} (h : Okm m) {n part : Int} (h0 : 0 < n) (h1 : n ≤ 1500) (h2 : 0 ≤ part) (h3 : part ≤ n) :
    Hand.posS m.f0.f0 m.f0.f1 m.f0.f2 m.f1.f0 m.f1.f1 m.f1.f2 part n = some ((posM m n part).f0, (posM m n part).f1, (posM m n part).f2, 0) := by
  obtain ⟨hx, hy, hz, dx, dy, dz, -⟩ := h
  unfold Hand.posS
  rw [if_neg (by omega), if_pos (by unfold Hand.inW; omega)]
  rfl
end Go.Proofs.Ytmaegpblaihepaa.Pure
