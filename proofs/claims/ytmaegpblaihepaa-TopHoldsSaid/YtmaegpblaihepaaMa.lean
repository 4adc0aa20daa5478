/- Plain facts: wrapped numbers, valid limits; braking from a safe state. -/
import Derived.Test.YtmaegpblaihepaaPos
import Derived.Test.YtmaegpblaihepaaFx5
import Derived.Test.YtmaegpblaihepaaFa
import Derived.Test.YtmaegpblaihepaaFx9
import Derived.Test.YtmaegpblaihepaaFx14
import Derived.Test.YtmaegpblaihepaaFx37
import Derived.Test.YtmaegpblaihepaaFx38
import Derived.Test.YtmaegpblaihepaaFx39
import Derived.Test.YtmaegpblaihepaaFx40
import Derived.Test.YtmaegpblaihepaaFx41
import Derived.OpenShut
import Derived.Lib.Hide
namespace Go.Proofs.Ytmaegpblaihepaa.Pure
open Go.RowKit Go.Proofs.Ytmaegpblaihepaa.F Go.Proofs.YtmaegpblaihepaaW.PrintWords Go.Proofs.YtmaegpblaihepaaW.PrintLast Go.Proofs.YtmaegpblaihepaaW.PrintMore
set_option linter.unusedVariables false
set_option linter.unusedSimpArgs false
theorem w64 {x : Int} (h1 : -9223372036854775808 ≤ x) (h2 : x ≤ 9223372036854775807) : wrap64 x = x := by
  unfold wrap64; omega
def I64 (x : Int) : Prop := -9223372036854775808 ≤ x ∧ x ≤ 9223372036854775807
def okL (S A J : Int) : Prop := 1 ≤ S ∧ S ≤ 100000 ∧ 1 ≤ A ∧ A ≤ 100000 ∧ 2 ≤ J ∧ J ≤ 100000
instance (S A J : Int) : Decidable (okL S A J) := by unfold okL; infer_instance
theorem within_f (a b c : Int) : profile_within.f a b c = some (decide (b ≤ a ∧ a ≤ c)) := by
  unfold profile_within.f
  by_cases h : b ≤ a
  · rw [if_pos h]; simp [h]
  · rw [if_neg h]; simp [h]
theorem rwithin_f (a b c : Int) : swarfref49_within.f a b c = some (decide (b ≤ a ∧ a ≤ c)) := by
  unfold swarfref49_within.f
  by_cases h : a ≥ b
  · rw [if_pos h]; simp; omega
  · rw [if_neg h]; simp; omega
theorem valid_f (S A J : Int) : profile_Valid.f S A J = some (if okL S A J then 0 else 1) := by
  unfold profile_Valid.f
  simp only [within_f, Option.bind_some, decide_eq_true_eq]
  by_cases a : 1 ≤ S ∧ S ≤ 100000
  · rw [if_pos a]
    by_cases b : 1 ≤ A ∧ A ≤ 100000
    · rw [if_pos b]
      by_cases c : 2 ≤ J ∧ J ≤ 100000
      · rw [if_pos c, if_pos (show okL S A J by unfold okL; omega)]
      · rw [if_neg c, if_neg (show ¬ okL S A J by unfold okL; omega)]
    · rw [if_neg b, if_neg (show ¬ okL S A J by unfold okL; omega)]
  · rw [if_neg a, if_neg (show ¬ okL S A J by unfold okL; omega)]
theorem rvalid_f (S A J : Int) : swarfref49_Valid.f S A J = some (if okL S A J then 0 else 1) := by
  unfold swarfref49_Valid.f
  simp only [rwithin_f, Option.bind_some, decide_eq_true_eq]
  by_cases a : 1 ≤ S ∧ S ≤ 100000
  · rw [if_pos a]
    by_cases b : 1 ≤ A ∧ A ≤ 100000
    · rw [if_pos b]
      by_cases c : 2 ≤ J ∧ J ≤ 100000
      · rw [if_pos c, if_pos (show okL S A J by unfold okL; omega)]
      · rw [if_neg c, if_neg (show ¬ okL S A J by unfold okL; omega)]
    · rw [if_neg b, if_neg (show ¬ okL S A J by unfold okL; omega)]
  · rw [if_neg a, if_neg (show ¬ okL S A J by unfold okL; omega)]
/-- one step of a smooth list: from speed v and acceleration a to the speed x -/
def okStep (S A J v a x : Int) : Prop := 0 ≤ x ∧ x ≤ S ∧ -A ≤ x - v ∧ x - v ≤ A ∧ -J ≤ x - v - a ∧ x - v - a ≤ J
instance (S A J v a x : Int) : Decidable (okStep S A J v a x) := by unfold okStep; infer_instance
def smo (S A J : Int) : Int → Int → List Int → Bool
  | v, a, [] => decide (okStep S A J v a 0) && decide (okStep S A J 0 (0-v) 0)
  | v, a, x :: xs => decide (okStep S A J v a x) && smo S A J x (x-v) xs
def fad (J a : Int) : Int := if a ≤ J then 0 else (a-1)/J * a - J*((a-1)/J)*((a-1)/J+1)/2
theorem even_prod (n : Int) : ∃ m, n*(n+1) = 2*m := by
  rcases Int.emod_two_eq n with h | h
  · exact ⟨n/2*(n+1), by have := Int.mul_ediv_add_emod n 2; grind⟩
  · exact ⟨n*((n+1)/2), by have := Int.mul_ediv_add_emod (n+1) 2; have h2 : (n+1)%2 = 0 := by omega
                           grind⟩
theorem div_pred (J a : Int) (hJ : 1 ≤ J) : (a-J-1)/J = (a-1)/J - 1 := by
  have e : a - J - 1 = (a-1) + (-1)*J := by grind
  rw [e, Int.add_mul_ediv_right _ _ (by omega)]; omega
theorem fad_low {J a : Int} (h : a ≤ J) : fad J a = 0 := by simp [fad, h]
theorem fad_step {J a : Int} (hJ : 1 ≤ J) (h : J < a) : fad J a = (a-J) + fad J (a-J) := by
  obtain ⟨m, hm⟩ := even_prod ((a-1)/J)
  have e1 : J*((a-1)/J)*((a-1)/J+1) = 2*(J*m) := by grind
  have f1 : fad J a = (a-1)/J*a - J*m := by
    unfold fad; rw [if_neg (by omega), e1, Int.mul_ediv_cancel_left _ (by omega)]
  rw [f1]
  by_cases h2 : a - J ≤ J
  · rw [fad_low h2]
    have hn : (a-1)/J = 1 := by
      have h3 : (a-1-J)/J = 0 := Int.ediv_eq_zero_of_lt (by omega) (by omega)
      have := div_pred J a hJ
      have e : a - J - 1 = a - 1 - J := by omega
      rw [e] at this; omega
    rw [hn] at hm ⊢
    have : m = 1 := by omega
    subst this; omega
  · obtain ⟨m', hm'⟩ := even_prod ((a-1)/J-1)
    have e2 : J*((a-J-1)/J)*((a-J-1)/J+1) = 2*(J*m') := by rw [div_pred J a hJ]; grind
    have f2 : fad J (a-J) = ((a-1)/J-1)*(a-J) - J*m' := by
      unfold fad; rw [if_neg (by omega), e2, Int.mul_ediv_cancel_left _ (by omega), div_pred J a hJ]
    rw [f2]
    have : m' = m - (a-1)/J := by grind
    subst this; grind
theorem fad_nonneg {J : Int} (hJ : 1 ≤ J) (n : Nat) : ∀ a : Int, a ≤ n → 0 ≤ fad J a := by
  induction n with
  | zero => intro a h; rw [fad_low (by omega)]; omega
  | succ n ih =>
    intro a h
    by_cases h2 : a ≤ J
    · rw [fad_low h2]; omega
    · rw [fad_step hJ (by omega)]; have := ih (a-J) (by omega); omega
theorem fad_pos {J : Int} (hJ : 1 ≤ J) (a : Int) : 0 ≤ fad J a := fad_nonneg hJ a.toNat a (by omega)
theorem fad_mono' {J : Int} (hJ : 1 ≤ J) (n : Nat) : ∀ a b : Int, a ≤ n → a ≤ b → fad J a ≤ fad J b := by
  induction n with
  | zero => intro a b h _; rw [fad_low (by omega)]; exact fad_pos hJ b
  | succ n ih =>
    intro a b h hab
    by_cases h2 : a ≤ J
    · rw [fad_low h2]; exact fad_pos hJ b
    · rw [fad_step hJ (by omega), fad_step (a := b) hJ (by omega)]; have := ih (a-J) (b-J) (by omega) (by omega); omega
theorem fad_mono {J : Int} (hJ : 1 ≤ J) {a b : Int} (h : a ≤ b) : fad J a ≤ fad J b := fad_mono' hJ a.toNat a b (by omega) h
theorem fad_le {J : Int} (hJ : 1 ≤ J) (n : Nat) : ∀ a : Int, 0 ≤ a → a ≤ n → fad J a ≤ 100000 * a ∨ 100000 < a := by
  induction n with
  | zero => intro a h0 h; left; rw [fad_low (by omega)]; omega
  | succ n ih =>
    intro a h0 h
    by_cases hb : 100000 < a
    · exact .inr hb
    · left
      by_cases h2 : a ≤ J
      · rw [fad_low h2]; omega
      · rw [fad_step hJ (by omega)]
        have := ih (a-J) (by omega) (by omega)
        omega
theorem fad_b {J a : Int} (hJ : 1 ≤ J) (h : a ≤ 100000) : 0 ≤ fad J a ∧ fad J a ≤ 10000000000 := by
  refine ⟨fad_pos hJ a, ?_⟩
  by_cases h0 : 0 ≤ a
  · have := fad_le hJ a.toNat a h0 (by omega); omega
  · rw [fad_low (by omega)]; omega
theorem fading_f {S A J a : Int} (hJ : 2 ≤ J) (hJ2 : J ≤ 100000) (h1 : -1000000 ≤ a) (h2 : a ≤ 100000) : profile_Limits_fading.f S A J a = some (fad J a) := by
  unfold profile_Limits_fading.f fad
  by_cases c : a ≤ J
  · rw [if_pos c, if_pos c]
  · rw [if_neg c, if_neg c, if_neg (by omega)]
    have q0 : 0 ≤ (a-1)/J := Int.ediv_nonneg (by omega) (by omega)
    have q1 : (a-1)/J ≤ a - 1 := Int.ediv_le_self J (by omega)
    have q2 : J * ((a-1)/J) ≤ a - 1 := Int.mul_ediv_self_le (by omega)
    have q3 : 0 ≤ J * ((a-1)/J) := Int.mul_nonneg (by omega) q0
    generalize hn : (a-1)/J = n at *
    have m1 : n * a ≤ 100000 * 100000 := Int.mul_le_mul (by omega) (by omega) (by omega) (by omega)
    have m2 : 0 ≤ n * a := Int.mul_nonneg q0 (by omega)
    have m3 : J*n*(n+1) ≤ 100000 * 100001 := Int.mul_le_mul (by omega) (by omega) (by omega) (by omega)
    have m4 : 0 ≤ J*n*(n+1) := Int.mul_nonneg q3 (by omega)
    rw [w64 (x := a - 1) (by omega) (by omega), Int.tdiv_eq_ediv_of_nonneg (a := a-1) (by omega), hn, w64 (x := n) (by omega) (by omega), w64 (x := n * a) (by omega) (by omega), w64 (x := J * n) (by omega) (by omega), w64 (x := n + 1) (by omega) (by omega),
      w64 (x := J*n*(n+1)) (by omega) (by omega), Int.tdiv_eq_ediv_of_nonneg m4, w64 (x := J*n*(n+1)/2) (by omega) (by omega), w64 (by omega) (by omega)]
/-- a safe state -/
def safeS (S A J v a : Int) : Prop := 0 ≤ v ∧ v ≤ S ∧ -A ≤ a ∧ a ≤ A ∧ (0 < a → v + fad J a ≤ S) ∧ (a ≤ 0 → 0 ≤ v - fad J (-a))
instance (S A J v a : Int) : Decidable (safeS S A J v a) := by unfold safeS; infer_instance
theorem safe_f {S A J v a : Int} (h : okL S A J) (k : Nat) (hk : 1 ≤ k) : profile_Limits_safe.f k S A J v a = some (decide (safeS S A J v a)) := by
  obtain ⟨k, rfl⟩ : ∃ m, k = m + 1 := ⟨k - 1, by omega⟩
  unfold okL at h
  unfold profile_Limits_safe.f
  simp only [within_f, Option.bind_some, decide_eq_true_eq, profile_Limits_safe.j0]
  by_cases c1 : 0 ≤ v ∧ v ≤ S
  · rw [if_pos c1, w64 (x := -A) (by omega) (by omega)]
    by_cases c2 : -A ≤ a ∧ a ≤ A
    · rw [if_neg (by simpa using c2)]
      by_cases c3 : a > 0
      · have b := fad_b (J := J) (a := a) (by omega) (by omega)
        rw [if_pos c3, fading_f (by omega) (by omega) (by omega) (by omega)]
        simp only [Option.bind_some]
        rw [w64 (x := v + fad J a) (by omega) (by omega)]
        congr 1
        rw [decide_eq_decide]
        unfold safeS
        constructor
        · intro z; exact ⟨c1.1, c1.2, c2.1, c2.2, fun _ => z, fun _ => by omega⟩
        · intro z; exact z.2.2.2.2.1 c3
      · have b := fad_b (J := J) (a := -a) (by omega) (by omega)
        rw [if_neg c3, w64 (x := -a) (by omega) (by omega), fading_f (by omega) (by omega) (by omega) (by omega)]
        simp only [Option.bind_some]
        rw [w64 (x := v - fad J (-a)) (by omega) (by omega)]
        congr 1
        rw [decide_eq_decide]
        unfold safeS
        constructor
        · intro z; exact ⟨c1.1, c1.2, c2.1, c2.2, fun _ => by omega, fun _ => z⟩
        · intro z; exact z.2.2.2.2.2 (by omega)
    · rw [if_pos (by rw [decide_eq_false c2]; rfl)]
      congr 1; symm; rw [decide_eq_false_iff_not]
      intro z; exact c2 ⟨z.2.2.1, z.2.2.2.1⟩
  · rw [if_neg c1, if_pos trivial]
    congr 1; symm; rw [decide_eq_false_iff_not]
    intro z; exact c1 ⟨z.1, z.2.1⟩
/-- the last two distances belong to a safe state, for valid limits -/
def movS (S A J b l : Int) : Prop := okL S A J ∧ (0 ≤ b ∧ b ≤ S) ∧ (0 ≤ l ∧ l ≤ S) ∧ safeS S A J l (l-b)
instance (S A J b l : Int) : Decidable (movS S A J b l) := by unfold movS; infer_instance
theorem moving_f {S A J b l : Int} (k : Nat) (hk : 1 ≤ k) : profile_Limits_moving.f k S A J b l = some (decide (movS S A J b l)) := by
  unfold profile_Limits_moving.f
  simp only [valid_f, within_f, Option.bind_some, decide_eq_true_eq]
  by_cases o : okL S A J
  · have o' := o
    unfold okL at o'
    rw [if_pos o, if_pos rfl]
    by_cases c1 : 0 ≤ b ∧ b ≤ S
    · rw [if_pos c1]
      by_cases c2 : 0 ≤ l ∧ l ≤ S
      · rw [if_pos c2, w64 (x := l - b) (by omega) (by omega), safe_f o k hk]
        simp only [Option.bind_some]
        congr 1; rw [decide_eq_decide]
        exact ⟨fun z => ⟨o, c1, c2, z⟩, fun z => z.2.2.2⟩
      · rw [if_neg c2]; congr 1; symm; rw [decide_eq_false_iff_not]; exact fun z => c2 z.2.2.1
    · rw [if_neg c1]; congr 1; symm; rw [decide_eq_false_iff_not]; exact fun z => c1 z.2.1
  · rw [if_neg o, if_neg (by omega)]; congr 1; symm; rw [decide_eq_false_iff_not]; exact fun z => o z.1
theorem mx_eq (a b : Int) : a ≤ mx a b ∧ b ≤ mx a b ∧ (mx a b = a ∨ mx a b = b) := by
  unfold mx; split <;> omega
theorem mn_eq (a b : Int) : mn a b ≤ a ∧ mn a b ≤ b ∧ (mn a b = a ∨ mn a b = b) := by
  unfold mn; split <;> omega
/-- what holds of every speed that braking may not go below -/
def gap (J v b : Int) : Int := v + b - fad J (-b)
theorem gap_mono {J v b c : Int} (hJ : 1 ≤ J) (h : b ≤ c) : gap J v b ≤ gap J v c := by
  unfold gap
  have := fad_mono hJ (show -c ≤ -b by omega)
  omega
/-- the acceleration with which braking goes on -/
def IsBr (S A J v a b : Int) : Prop :=
  mx (-A) (a-J) ≤ b ∧ b ≤ mn A (a+J) ∧ 0 ≤ gap J v b ∧ ∀ c, mx (-A) (a-J) ≤ c → c < b → gap J v c < 0
theorem br_top {S A J v a : Int} (h : okL S A J) (s : safeS S A J v a) : mx (-A) (a-J) ≤ mn A (a+J) ∧ 0 ≤ gap J v (mn A (a+J)) := by
  unfold okL at h
  obtain ⟨s1, s2, s3, s4, s5, s6⟩ := s
  have m := mx_eq (-A) (a-J)
  have n := mn_eq A (a+J)
  refine ⟨by omega, ?_⟩
  unfold gap
  by_cases c : 0 ≤ mn A (a+J)
  · rw [fad_low (by omega)]; omega
  · have e : mn A (a+J) = a + J := by omega
    rw [e]
    have st := fad_step (J := J) (a := -a) (by omega) (by omega)
    have := s6 (by omega)
    have e2 : -(a + J) = -a - J := by omega
    rw [e2]; omega
theorem brake_l0 {S A J v a : Int} (h : okL S A J) (hv : 0 ≤ v ∧ v ≤ S) (d : Nat) : ∀ (k : Nat) (lo hi : Int), lo ≤ hi → -100000 ≤ lo → hi ≤ 100000 → hi - lo < 2^d → d + 2 ≤ k →
    0 ≤ gap J v hi → ∃ b, profile_Limits_brake.l0 k lo hi S A J v a = some (v + b, b) ∧ lo ≤ b ∧ b ≤ hi ∧ 0 ≤ gap J v b ∧ ∀ c, lo ≤ c → c < b → gap J v c < 0 := by
  unfold okL at h
  induction d with
  | zero =>
    intro k lo hi h1 h2 h3 hd hk hh
    obtain ⟨k, rfl⟩ : ∃ m, k = m + 1 := ⟨k - 1, by omega⟩
    obtain rfl : lo = hi := by omega
    refine ⟨lo, ?_, by omega, by omega, hh, fun c h1 h2 => by omega⟩
    rw [profile_Limits_brake.l0, if_neg (by omega), w64 (by omega) (by omega)]
  | succ d ih =>
    intro k lo hi h1 h2 h3 hd hk hh
    obtain ⟨k, rfl⟩ : ∃ m, k = m + 1 := ⟨k - 1, by omega⟩
    by_cases hlt : lo < hi
    · have fl : profile_floor.f (lo+hi) 2 = some ((lo+hi)/2) := by
        unfold profile_floor.f
        have e := Hand.floor_eq (lo+hi) 2 (by omega)
        rw [if_neg (by omega)]
        by_cases c : Int.tmod (lo+hi) 2 < 0
        · rw [if_pos c] at e
          rw [if_pos c, w64 (x := Int.tdiv (lo+hi) 2) (by omega) (by omega), w64 (by omega) (by omega), e]
        · rw [if_neg c] at e
          rw [if_neg c, w64 (x := Int.tdiv (lo+hi) 2) (by omega) (by omega), e]
      generalize hm : (lo+hi)/2 = m at *
      have m1 : lo ≤ m := by omega
      have m2 : m < hi := by omega
      have fb := fad_b (J := J) (a := -m) (by omega) (by omega)
      have p2 : (2:Int)^(d+1) = 2*2^d := by rw [Int.pow_succ]; omega
      rw [profile_Limits_brake.l0, if_pos hlt, w64 (x := lo + hi) (by omega) (by omega), fl]
      simp only [Option.bind_some]
      rw [w64 (x := -m) (by omega) (by omega), fading_f (by omega) (by omega) (by omega) (by omega)]
      simp only [Option.bind_some]
      rw [w64 (x := v + m) (by omega) (by omega), w64 (x := v + m - fad J (-m)) (by omega) (by omega), w64 (x := m + 1) (by omega) (by omega)]
      by_cases c : v + m - fad J (-m) ≥ 0
      · rw [if_pos c]
        obtain ⟨b, e1, e2, e3, e4, e5⟩ := ih k lo m m1 (by omega) (by omega) (by omega) (by omega) c
        exact ⟨b, e1, e2, by omega, e4, e5⟩
      · rw [if_neg c]
        obtain ⟨b, e1, e2, e3, e4, e5⟩ := ih k (m+1) hi (by omega) (by omega) (by omega) (by omega) (by omega) hh
        refine ⟨b, e1, by omega, e3, e4, fun x hx1 hx2 => ?_⟩
        by_cases y : m + 1 ≤ x
        · exact e5 x y hx2
        · have := gap_mono (J := J) (v := v) (by omega) (show x ≤ m by omega)
          unfold gap at this ⊢
          omega
    · obtain rfl : lo = hi := by omega
      refine ⟨lo, ?_, by omega, by omega, hh, fun c h1 h2 => by omega⟩
      rw [profile_Limits_brake.l0, if_neg (by omega), w64 (by omega) (by omega)]
theorem brake_f {S A J v a : Int} (h : okL S A J) (s : safeS S A J v a) (k : Nat) (hk : 30 ≤ k) : ∃ b, profile_Limits_brake.f k S A J v a = some (v + b, b) ∧ IsBr S A J v a b := by
  obtain ⟨t1, t2⟩ := br_top h s
  have h' := h
  unfold okL at h'
  obtain ⟨s1, s2, s3, s4, s5, s6⟩ := s
  have m := mx_eq (-A) (a-J)
  have n := mn_eq A (a+J)
  have p18 : (2:Int)^18 = 262144 := by decide
  obtain ⟨b, e1, e2, e3, e4, e5⟩ := brake_l0 (A := A) (a := a) h ⟨s1, s2⟩ 18 k (mx (-A) (a-J)) (mn A (a+J)) t1 (by omega) (by omega) (by omega) (by omega) t2
  refine ⟨b, ?_, e2, e3, e4, e5⟩
  unfold profile_Limits_brake.f
  rw [w64 (x := -A) (by omega) (by omega), w64 (x := a - J) (by omega) (by omega), w64 (x := a + J) (by omega) (by omega)]
  exact e1
theorem IsBr.unique {S A J v a b c : Int} (h1 : IsBr S A J v a b) (h2 : IsBr S A J v a c) : b = c := by
  obtain ⟨a1, a2, a3, a4⟩ := h1
  obtain ⟨b1, b2, b3, b4⟩ := h2
  rcases Int.lt_trichotomy b c with h | h | h
  · have := b4 b a1 h; omega
  · exact h
  · have := a4 c b1 h; omega
/-- what braking's next state is like -/
theorem br_next {S A J v a b : Int} (h : okL S A J) (s : safeS S A J v a) (hb : IsBr S A J v a b) :
    safeS S A J (v+b) b ∧ -A ≤ b ∧ b ≤ A ∧ -J ≤ b - a ∧ b - a ≤ J ∧ (0 < a → b < a ∧ (0 < b → b = a - J)) ∧ (a ≤ 0 → 1 ≤ v → b ≤ -1) ∧ (a ≤ 0 → b ≤ 0) ∧ (0 < a → a ≤ J → b ≤ 0) := by
  have h' := h
  unfold okL at h'
  obtain ⟨s1, s2, s3, s4, s5, s6⟩ := s
  have m := mx_eq (-A) (a-J)
  have n := mn_eq A (a+J)
  obtain ⟨b1, b2, b3, b4⟩ := hb
  have p0 : 0 ≤ gap J v 0 := by unfold gap; rw [fad_low (by omega)]; omega
  have le0 : mx (-A) (a-J) ≤ 0 → b ≤ 0 := by
    intro hl
    rcases Int.lt_or_le 0 b with hc | hc
    · have := b4 0 hl hc; omega
    · exact hc
  have leL : 0 < mx (-A) (a-J) → b = mx (-A) (a-J) := by
    intro hl
    rcases Int.lt_or_le (mx (-A) (a-J)) b with hc | hc
    · have := b4 _ (by omega) hc
      have g := gap_mono (J := J) (v := v) (by omega) (show 0 ≤ mx (-A) (a-J) by omega)
      omega
    · omega
  have fb := fad_pos (J := J) (by omega) (-b)
  have g0 := b3
  unfold gap at g0
  have neg1 : a ≤ 0 → 1 ≤ v → b ≤ -1 := by
    intro ha hv
    rcases Int.lt_or_le (-1) b with hc | hc
    · have := b4 (-1) (by omega) (by omega)
      unfold gap at this; rw [fad_low (by omega)] at this; omega
    · exact hc
  have up : 0 < b → b = a - J ∧ 0 < a - J := by
    intro hb
    rcases Int.lt_or_le 0 (mx (-A) (a-J)) with hc | hc
    · have := leL hc; omega
    · have := le0 hc; omega
  refine ⟨⟨by omega, ?_, by omega, by omega, ?_, fun _ => by omega⟩, by omega, by omega, by omega, by omega, ?_, neg1, ?_, ?_⟩
  · rcases Int.lt_or_le 0 b with hc | hc
    · obtain ⟨u1, u2⟩ := up hc
      have st := fad_step (J := J) (a := a) (by omega) (by omega)
      have := s5 (by omega)
      have fp := fad_pos (J := J) (by omega) (a-J)
      omega
    · omega
  · intro hc
    obtain ⟨u1, u2⟩ := up hc
    have st := fad_step (J := J) (a := a) (by omega) (by omega)
    have := s5 (by omega)
    rw [u1]; omega
  · intro ha
    constructor
    · rcases Int.lt_or_le 0 b with hc | hc
      · have := up hc; omega
      · omega
    · intro hb; exact (up hb).1
  · intro ha
    exact le0 (by omega)
  · intro ha haJ
    exact le0 (by omega)
/-- how long braking may still last -/
def meas (S v a : Int) : Int := (if 0 < a then a else 0) * (2*S+5) + 2*v + (if a = 0 then 0 else 1)
theorem meas_next {S A J v a b : Int} (h : okL S A J) (s : safeS S A J v a) (hb : IsBr S A J v a b) (hn : ¬ (v = 0 ∧ a = 0)) : 0 ≤ meas S (v+b) b ∧ meas S (v+b) b < meas S v a := by
  obtain ⟨n1, n2, n3, n4, n5, n6, n7, n8, n9⟩ := br_next h s hb
  unfold okL at h
  obtain ⟨s1, s2, s3, s4, s5, s6⟩ := s
  obtain ⟨t1, t2, -⟩ := n1
  unfold meas
  by_cases ha : 0 < a
  · rw [if_pos ha, if_neg (show ¬ a = 0 by omega)]
    by_cases hb0 : 0 < b
    · rw [if_pos hb0, if_neg (show ¬ b = 0 by omega)]
      have e : b * (2*S+5) ≤ (a-1) * (2*S+5) := Int.mul_le_mul_of_nonneg_right (by omega) (by omega)
      have e2 : (a-1) * (2*S+5) = a*(2*S+5) - (2*S+5) := by grind
      have e3 : 0 ≤ b*(2*S+5) := Int.mul_nonneg (by omega) (by omega)
      omega
    · rw [if_neg hb0]
      have e3 : 1*(2*S+5) ≤ a*(2*S+5) := Int.mul_le_mul_of_nonneg_right (by omega) (by omega)
      split <;> omega
  · have := n8 (by omega)
    rw [if_neg ha, if_neg (show ¬ 0 < b by omega)]
    by_cases hv : 1 ≤ v
    · have := n7 (by omega) hv
      split <;> split <;> omega
    · have hv0 : v = 0 := by omega
      have hb0 : b = 0 := by omega
      rw [hb0, if_pos rfl, if_neg (show ¬ a = 0 by omega)]
      omega
theorem meas_le {S A J v a : Int} (h : okL S A J) (s : safeS S A J v a) : 0 ≤ meas S v a ∧ meas S v a ≤ 30000000000 := by
  unfold okL at h
  obtain ⟨s1, s2, s3, s4, s5, s6⟩ := s
  unfold meas
  by_cases ha : 0 < a
  · rw [if_pos ha]
    have e : a*(2*S+5) ≤ 100000*200005 := Int.mul_le_mul (by omega) (by omega) (by omega) (by omega)
    have e0 : 0 ≤ a*(2*S+5) := Int.mul_nonneg (by omega) (by omega)
    split <;> omega
  · rw [if_neg ha]; split <;> omega
/-- all that is told of braking from a safe state -/
structure Brk (S A J v a : Int) (n : Nat) (T : List Int) (K : Nat) : Prop where
  prog : ∀ k, K ≤ k → ∀ out : List Int, out.length + n < 17592186044416 → profile_Stop.l0 k out S A J v a = some (out ++ T, 0)
  dist : ∀ k, K ≤ k → ∀ acc : Int, 0 ≤ acc → acc + 100000 * (n : Int) ≤ 1000000000000000000 → profile_Limits_distance.l0 k acc S A J v a = some (acc + T.sum)
  len : T.length ≤ n
  pos : ∀ x ∈ T, 0 < x ∧ x ≤ S
  smo : smo S A J v a T = true
  nil : v = 0 → a ≤ 0 → T = []
theorem brk {S A J : Int} (h : okL S A J) (n : Nat) : ∀ v a : Int, safeS S A J v a → meas S v a ≤ n → n ≤ 100000000000 → ∃ T K, Brk S A J v a n T K := by
  have h' := h
  unfold okL at h'
  induction n with
  | zero =>
    intro v a s hm _
    have m0 := meas_le h s
    have rest : v = 0 ∧ a = 0 := by
      obtain ⟨s1, s2, s3, s4, s5, s6⟩ := s
      have hm' := hm
      unfold meas at hm' m0
      by_cases ha : 0 < a
      · rw [if_pos ha] at hm'
        have e3 : 1*(2*S+5) ≤ a*(2*S+5) := Int.mul_le_mul_of_nonneg_right (by omega) (by omega)
        split at hm' <;> omega
      · rw [if_neg ha] at hm'
        split at hm' <;> omega
    obtain ⟨rfl, rfl⟩ := rest
    refine ⟨[], 5, ⟨?_, ?_, by simp, by simp, ?_, fun _ _ => rfl⟩⟩
    · intro k hk out _
      obtain ⟨k, rfl⟩ : ∃ m, k = m + 1 := ⟨k - 1, by omega⟩
      rw [profile_Stop.l0, if_neg (by decide), List.append_nil]
    · intro k hk acc _ _
      obtain ⟨k, rfl⟩ : ∃ m, k = m + 1 := ⟨k - 1, by omega⟩
      rw [profile_Limits_distance.l0, if_neg (by decide)]; simp
    · have o : okStep S A J 0 0 0 := by unfold okStep; omega
      simp only [_root_.Go.Proofs.Ytmaegpblaihepaa.Pure.smo, o, Int.sub_self, decide_true, Bool.and_self]
  | succ n ih =>
    intro v a s hm hn
    by_cases rest : v = 0 ∧ a = 0
    · obtain ⟨rfl, rfl⟩ := rest
      obtain ⟨T, K, t⟩ := ih 0 0 s (by unfold meas; rw [if_neg (by omega), if_pos rfl]; omega) (by omega)
      exact ⟨T, K, ⟨fun k hk out ho => t.prog k hk out (by omega), fun k hk acc h0 h1 => t.dist k hk acc h0 (by omega), by have := t.len; omega, t.pos, t.smo, t.nil⟩⟩
    · obtain ⟨b, -, hb⟩ := brake_f h s 30 (by omega)
      have hbr : ∀ k, 30 ≤ k → profile_Limits_brake.f k S A J v a = some (v + b, b) := by
        intro k hk
        obtain ⟨c, e, hc⟩ := brake_f h s k hk
        rw [e, hc.unique hb]
      obtain ⟨n1, n2, n3, n4, n5, n6, n7, n8, n9⟩ := br_next h s hb
      obtain ⟨mn1, mn2⟩ := meas_next h s hb rest
      obtain ⟨T, K, t⟩ := ih (v+b) b n1 (by omega) (by omega)
      obtain ⟨s1, s2, s3, s4, s5, s6⟩ := s
      have sS : safeS S A J v a := ⟨s1, s2, s3, s4, s5, s6⟩
      have n1' := n1
      obtain ⟨z1, z2, z3, z4, z5, z6⟩ := n1'
      have cnd : (!(v == 0) || !(a == 0)) = true := by
        rw [Bool.or_eq_true]
        by_cases v0 : v = 0
        · right; simp; omega
        · left; simp; omega
      have bl := hb.1
      have mm := mx_eq (-A) (a-J)
      by_cases vb : v + b = 0
      · have Tn := t.nil vb (by omega)
        have rest2 := t.smo
        subst Tn
        refine ⟨[], K + 400000, ⟨?_, ?_, by simp, by simp, ?_, fun _ _ => rfl⟩⟩
        · intro k hk out ho
          obtain ⟨k, rfl⟩ : ∃ m, k = m + 1 := ⟨k - 1, by omega⟩
          rw [profile_Stop.l0, if_pos cnd, hbr k (by omega)]
          simp only [Option.bind_some]
          rw [if_neg (by omega)]
          exact t.prog k (by omega) out (by omega)
        · intro k hk acc h0 h1
          obtain ⟨k, rfl⟩ : ∃ m, k = m + 1 := ⟨k - 1, by omega⟩
          rw [profile_Limits_distance.l0, if_pos cnd, hbr k (by omega)]
          simp only [Option.bind_some]
          rw [w64 (x := acc + (v+b)) (by omega) (by omega), vb, Int.add_zero]
          have d := t.dist k (by omega) acc h0 (by omega)
          rw [vb] at d
          exact d
        · have vJ : v ≤ J := by
            have := z6 (by omega)
            rcases Int.lt_or_le J v with hc | hc
            · have st := fad_step (J := J) (a := -b) (by omega) (by omega)
              have fp := fad_pos (J := J) (by omega) (-b - J)
              omega
            · exact hc
          have o1 : okStep S A J v a 0 := by unfold okStep; omega
          have o2 : okStep S A J 0 (0-v) 0 := by unfold okStep; omega
          simp only [_root_.Go.Proofs.Ytmaegpblaihepaa.Pure.smo, o1, o2, decide_true, Bool.and_self]
      · have vp : v + b > 0 := by omega
        refine ⟨(v+b) :: T, K + 400000, ⟨?_, ?_, ?_, ?_, ?_, ?_⟩⟩
        · intro k hk out ho
          obtain ⟨k, rfl⟩ : ∃ m, k = m + 1 := ⟨k - 1, by omega⟩
          rw [profile_Stop.l0, if_pos cnd, hbr k (by omega)]
          simp only [Option.bind_some]
          rw [if_pos vp, if_pos (by omega), t.prog k (by omega) (out ++ [v+b]) (by rw [List.length_append]; simp; omega)]
          simp
        · intro k hk acc h0 h1
          obtain ⟨k, rfl⟩ : ∃ m, k = m + 1 := ⟨k - 1, by omega⟩
          rw [profile_Limits_distance.l0, if_pos cnd, hbr k (by omega)]
          simp only [Option.bind_some]
          rw [w64 (x := acc + (v+b)) (by omega) (by omega), t.dist k (by omega) (acc + (v+b)) (by omega) (by omega), List.sum_cons, Int.add_assoc]
        · have := t.len; simp; omega
        · intro x hx
          rcases List.mem_cons.mp hx with rfl | hx
          · exact ⟨vp, z2⟩
          · exact t.pos x hx
        · have o1 : okStep S A J v a (v+b) := by unfold okStep; omega
          have := t.smo
          simp only [_root_.Go.Proofs.Ytmaegpblaihepaa.Pure.smo, o1, decide_true, Bool.true_and]
          rw [show v + b - v = b by omega]; exact this
        · intro v0 a0
          have := n8 a0
          omega
theorem brk_all {S A J v a : Int} (h : okL S A J) (s : safeS S A J v a) : ∃ T K, Brk S A J v a 30000000000 T K := by
  have m := meas_le h s
  exact brk h 30000000000 v a s (by omega) (by omega)
theorem mov_b {S A J b l : Int} (m : movS S A J b l) : wrap64 (l - b) = l - b := by
  obtain ⟨o, c1, c2, -⟩ := m
  unfold okL at o
  exact w64 (by omega) (by omega)


end Go.Proofs.Ytmaegpblaihepaa.Pure
