/- int64(math.Sqrt(float64(x))) for small x: it is a small number from 0 on. math.Sqrt, by a contract. -/
import Derived.Test.YtmaegpblaihepaaFx0
import Derived.Laws.FloatArith
import Derived.Laws.Externs
namespace Go.Proofs.Ytmaegpblaihepaa.F
open Go.RowKit
set_option linter.unusedVariables false
set_option linter.unusedSimpArgs false
/-- What int64(math.Sqrt(float64(x))) gives. -/
def fsq (x : Int) : Option Int := (Ieee.double.sqrt (floatOfInt .f64 x)).bind fun b => floatToIntVal .f64 b .i64
theorem root_sq (n : Nat) : ∀ todo root : Nat, root * root ≤ n → Ieee.Datum.rootFrom n todo root * Ieee.Datum.rootFrom n todo root ≤ n := by
  intro todo
  induction todo with
  | zero => intro root h; exact h
  | succ k ih =>
    intro root h
    unfold Ieee.Datum.rootFrom
    apply ih
    split
    · assumption
    · exact h
theorem log2_le {m k : Nat} (h : m < 2 ^ (k + 1)) : m.log2 ≤ k := by
  rcases Nat.eq_zero_or_pos m with rfl | hm
  · rw [Nat.log2_zero]; exact Nat.zero_le _
  · have := (Nat.log2_lt (by omega : m ≠ 0)).2 h
    omega
theorem double_leastPlace : Ieee.double.leastPlace = -1074 := by decide
theorem double_binade : Ieee.double.binade = 4503599627370496 := by decide
theorem double_inf : Ieee.double.infRung = 2047 * 4503599627370496 := by decide
theorem double_sign : Ieee.double.signWeight = 9223372036854775808 := by decide
theorem read_mid (r : Nat) (h0 : 4503599627370496 ≤ r) (h : r < 2047 * 4503599627370496) :
    Ieee.double.read r = .number false (4503599627370496 + r % 4503599627370496) (-1074 + ((r / 4503599627370496 - 1 : Nat) : Int)) := by
  have h1 : r / 9223372036854775808 = 0 := Nat.div_eq_of_lt (by omega)
  have h2 : r % 9223372036854775808 = r := Nat.mod_eq_of_lt (by omega)
  unfold Ieee.Format.read
  simp only [double_leastPlace, double_binade, double_inf, double_sign, h1, h2]
  rw [if_neg (by omega), if_pos h]
  rfl
theorem cut_zero (n drop : Nat) : Ieee.Toward.zero.cut false n drop = n / (1 <<< min drop (n.log2 + 2)) := by simp [Ieee.Toward.cut]
theorem toInt_small (r : Nat) (h : r ≤ 1044 * 4503599627370496) : ∃ n : Int, (Ieee.double.read r).toInt .zero = some n ∧ 0 ≤ n ∧ n ≤ 4194304 := by
  rcases Nat.lt_or_ge r 4503599627370496 with hl | hg
  · refine ⟨0, ?_, by omega, by omega⟩
    have h1 : r / 9223372036854775808 = 0 := Nat.div_eq_of_lt (by omega)
    have h2 : r % 9223372036854775808 = r := Nat.mod_eq_of_lt (by omega)
    have hr : Ieee.double.read r = .number false r (-1074) := by
      unfold Ieee.Format.read
      simp only [double_leastPlace, double_binade, double_inf, double_sign, h1, h2]
      rw [if_pos hl]
      rfl
    rw [hr]
    have hlog : r.log2 ≤ 51 := log2_le (by omega)
    simp only [Ieee.Datum.toInt, Ieee.Datum.integral, cut_zero]
    have hz : r <<< (-1074 : Int).toNat / 1 <<< min (-(-1074) : Int).toNat ((r <<< (-1074 : Int).toNat).log2 + 2) = 0 := by
      show r <<< 0 / 1 <<< min 1074 ((r <<< 0).log2 + 2) = 0
      rw [Nat.shiftLeft_zero]
      rw [Nat.min_eq_right (by omega), Nat.one_shiftLeft]
      refine Nat.div_eq_of_lt ?_
      have := Nat.lt_log2_self (n := r)
      calc r < 2 ^ (r.log2 + 1) := this
        _ ≤ 2 ^ (r.log2 + 2) := Nat.pow_le_pow_right (by omega) (by omega)
    rw [hz]
    rfl
  · rw [read_mid r hg (by omega)]
    have hd : r / 4503599627370496 ≤ 1044 := by
      rw [Nat.div_le_iff_le_mul_add_pred (by omega)]
      omega
    obtain ⟨m, hm⟩ : ∃ m, 4503599627370496 + r % 4503599627370496 = m := ⟨_, rfl⟩
    have hm2 : m < 9007199254740992 := by have := Nat.mod_lt r (show 4503599627370496 > 0 by omega); omega
    obtain ⟨d, hd2⟩ : ∃ d : Nat, -1074 + ((r / 4503599627370496 - 1 : Nat) : Int) = -(d : Int) ∧ 31 ≤ d := ⟨1074 - (r / 4503599627370496 - 1), by omega, by omega⟩
    rw [hm, hd2.1]
    simp only [Ieee.Datum.toInt, Ieee.Datum.integral, cut_zero]
    have e1 : (-(d : Int)).toNat = 0 := by omega
    have e2 : (-(-(d : Int))).toNat = d := by omega
    rw [e1, e2, Nat.shiftLeft_zero, Nat.one_shiftLeft]
    refine ⟨((m / 2 ^ min d (m.log2 + 2) : Nat) : Int), ?_, Int.natCast_nonneg _, ?_⟩
    · simp only [Ieee.signed, Bool.false_eq_true, if_false, Nat.shiftLeft_zero]
    · have : m / 2 ^ min d (m.log2 + 2) ≤ 4194304 := by
        rcases Nat.le_total d (m.log2 + 2) with hc | hc
        · rw [Nat.min_eq_left hc]
          have h31 : (2:Nat) ^ 31 ≤ 2 ^ d := Nat.pow_le_pow_right (by omega) hd2.2
          refine Nat.le_trans (Nat.div_le_div_left h31 (by decide)) ?_
          omega
        · rw [Nat.min_eq_right hc]
          have := Nat.lt_log2_self (n := m)
          rw [Nat.div_eq_of_lt (Nat.lt_of_lt_of_le this (Nat.pow_le_pow_right (by omega) (by omega)))]
          omega
      generalize m / 2 ^ min d (m.log2 + 2) = q at this ⊢
      omega
theorem cut_even_le (n drop : Nat) : Ieee.Toward.even.cut false n drop ≤ n / (1 <<< min drop (n.log2 + 2)) + 1 := by
  simp only [Ieee.Toward.cut]
  refine Nat.add_le_add_left ?_ _
  exact Bool.toNat_le _
set_option maxRecDepth 100000 in
theorem nearest_small (mag : Nat) (place : Int) (hm : mag ≠ 0) (hp : place + mag.log2 ≤ 12) (hq : -200 ≤ place + mag.log2) : Ieee.double.nearest false mag place ≤ 1044 * 4503599627370496 := by
  unfold Ieee.Format.nearest
  rw [if_neg hm]
  have hf : (Ieee.double.fractionBits : Int) = 52 := rfl
  simp only [double_leastPlace, double_binade, hf]
  rw [Int.max_eq_left (show (-1074 : Int) ≤ place + mag.log2 - 52 by omega)]
  simp only [Ieee.Format.word, Bool.false_eq_true, if_false]
  refine Nat.le_trans (Nat.min_le_left _ _) ?_
  have hl : (place + mag.log2 - 52 - -1074).toNat ≤ 1034 := by omega
  have hk : Ieee.Toward.even.cut false (mag <<< (place - (place + mag.log2 - 52)).toNat) (place + mag.log2 - 52 - place).toNat ≤ 9007199254740992 := by
    refine Nat.le_trans (cut_even_le _ _) ?_
    have hlt := Nat.lt_log2_self (n := mag)
    have e1 : (place - (place + mag.log2 - 52)).toNat = 52 - mag.log2 := by omega
    have e2 : (place + mag.log2 - 52 - place).toNat = mag.log2 - 52 := by omega
    rw [e1, e2]
    rcases Nat.le_total mag.log2 52 with hc | hc
    · rw [show mag.log2 - 52 = 0 by omega, Nat.zero_min, Nat.shiftLeft_zero, Nat.div_one, Nat.shiftLeft_eq]
      have : mag * 2 ^ (52 - mag.log2) < 2 ^ (mag.log2 + 1) * 2 ^ (52 - mag.log2) := Nat.mul_lt_mul_of_pos_right hlt (Nat.pow_pos (by omega))
      rw [← Nat.pow_add, show mag.log2 + 1 + (52 - mag.log2) = 53 by omega] at this
      omega
    · rw [show 52 - mag.log2 = 0 by omega, Nat.shiftLeft_zero, Nat.min_eq_left (by omega), Nat.one_shiftLeft]
      have : mag / 2 ^ (mag.log2 - 52) < 2 ^ 53 := by
        rw [Nat.div_lt_iff_lt_mul (Nat.pow_pos (by omega)), ← Nat.pow_add, show 53 + (mag.log2 - 52) = mag.log2 + 1 by omega]
        exact hlt
      omega
  have : (place + mag.log2 - 52 - -1074).toNat * 4503599627370496 ≤ 1034 * 4503599627370496 := Nat.mul_le_mul_right _ hl
  clear hp hq hm hf
  exact Nat.le_trans (Nat.add_le_add this hk) (by decide)
set_option maxRecDepth 100000 in
theorem nearest_whole (x : Nat) (hx : x ≠ 0) (hb : x < 4194304) : ∃ (L : Nat) (m : Nat), L ≤ 21 ∧ 4503599627370496 ≤ m ∧ m < 9007199254740992 ∧ Ieee.double.read (Ieee.double.nearest false x 0) = .number false m ((L : Int) - 52) := by
  have hlt := Nat.lt_log2_self (n := x)
  have hle := Nat.log2_self_le hx
  have hL : x.log2 ≤ 21 := log2_le hb
  refine ⟨x.log2, x * 2 ^ (52 - x.log2), hL, ?_, ?_, ?_⟩
  · have : 2 ^ x.log2 * 2 ^ (52 - x.log2) ≤ x * 2 ^ (52 - x.log2) := Nat.mul_le_mul_right _ hle
    rw [← Nat.pow_add, show x.log2 + (52 - x.log2) = 52 by omega] at this
    exact this
  · have : x * 2 ^ (52 - x.log2) < 2 ^ (x.log2 + 1) * 2 ^ (52 - x.log2) := Nat.mul_lt_mul_of_pos_right hlt (Nat.pow_pos (by omega))
    rw [← Nat.pow_add, show x.log2 + 1 + (52 - x.log2) = 53 by omega] at this
    exact this
  · have hm1 : 4503599627370496 ≤ x * 2 ^ (52 - x.log2) := by
      have : 2 ^ x.log2 * 2 ^ (52 - x.log2) ≤ x * 2 ^ (52 - x.log2) := Nat.mul_le_mul_right _ hle
      rw [← Nat.pow_add, show x.log2 + (52 - x.log2) = 52 by omega] at this
      exact this
    have hm2 : x * 2 ^ (52 - x.log2) < 9007199254740992 := by
      have : x * 2 ^ (52 - x.log2) < 2 ^ (x.log2 + 1) * 2 ^ (52 - x.log2) := Nat.mul_lt_mul_of_pos_right hlt (Nat.pow_pos (by omega))
      rw [← Nat.pow_add, show x.log2 + 1 + (52 - x.log2) = 53 by omega] at this
      exact this
    obtain ⟨m, hm⟩ : ∃ m, x * 2 ^ (52 - x.log2) = m := ⟨_, rfl⟩
    rw [hm] at hm1 hm2 ⊢
    have hn : Ieee.double.nearest false x 0 = (x.log2 + 1022) * 4503599627370496 + m := by
      unfold Ieee.Format.nearest
      rw [if_neg hx]
      have hf : (Ieee.double.fractionBits : Int) = 52 := rfl
      simp only [double_leastPlace, double_binade, double_inf, hf]
      rw [Int.max_eq_left (show (-1074 : Int) ≤ 0 + x.log2 - 52 by omega)]
      simp only [Ieee.Format.word, Bool.false_eq_true, if_false]
      rw [show ((0 : Int) - (0 + x.log2 - 52)).toNat = 52 - x.log2 by omega, show ((0 : Int) + x.log2 - 52 - 0).toNat = 0 by omega, show ((0 : Int) + x.log2 - 52 - -1074).toNat = x.log2 + 1022 by omega]
      rw [Nat.shiftLeft_eq, hm]
      have hc : Ieee.Toward.even.cut false m 0 = m := by simp [Ieee.Toward.cut, Nat.mod_one]
      rw [hc]
      refine Nat.min_eq_left ?_
      omega
    rw [hn, read_mid _ (by omega) (by omega)]
    rw [show ((x.log2 + 1022) * 4503599627370496 + m) % 4503599627370496 = m - 4503599627370496 by omega, show ((x.log2 + 1022) * 4503599627370496 + m) / 4503599627370496 = x.log2 + 1023 by omega]
    rw [show 4503599627370496 + (m - 4503599627370496) = m by omega]
    congr 1
    omega
set_option maxRecDepth 100000 in
theorem fsq_small (x : Int) (h0 : 0 ≤ x) (h1 : x < 4194304) : ∃ n, fsq x = some n ∧ 0 ≤ n ∧ n ≤ 4194304 := by
  have key : ∃ b, Ieee.double.sqrt (floatOfInt .f64 x) = some b ∧ b ≤ 1044 * 4503599627370496 := by
    rcases Int.lt_or_eq_of_le h0 with hp | rfl
    · obtain ⟨L, m, hL, hm1, hm2, hr⟩ := nearest_whole x.natAbs (by omega) (by omega)
      have hf : floatOfInt .f64 x = Ieee.double.nearest false x.natAbs 0 := by
        show Ieee.double.nearest (decide (x < 0)) x.natAbs 0 = _
        rw [decide_eq_false (by omega)]
      rw [hf]
      unfold Ieee.Format.sqrt
      rw [hr]
      have hlog : m.log2 = 52 := by
        have h3 := log2_le (m := m) (k := 52) (by omega)
        have h4 := (Nat.le_log2 (n := m) (k := 52) (by omega)).2 (by omega)
        omega
      have hd : Ieee.double.fractionBits + 2 = 54 := rfl
      rw [hd]
      unfold Ieee.Datum.root
      simp only [Bool.false_eq_true, if_false, hlog]
      rw [if_neg (by omega)]
      obtain ⟨mo, hmo⟩ : ∃ mo, 2 * 54 - 52 + (((L : Int) - 52 - (2 * 54 - 52 : Nat)) % 2).toNat = mo := ⟨_, rfl⟩
      have hmo1 : mo = 56 + L % 2 := by omega
      rw [hmo]
      obtain ⟨wh, hwh⟩ : ∃ wh, Ieee.Datum.rootFrom (m <<< mo) ((m <<< mo).log2 / 2 + 1) 0 = wh := ⟨_, rfl⟩
      have hsq : wh * wh ≤ m <<< mo := by rw [← hwh]; exact root_sq _ _ _ (Nat.zero_le _)
      rw [hwh]
      have hn : m <<< mo < 2 ^ 110 := by
        rw [Nat.shiftLeft_eq]
        have e : (2 : Nat) ^ mo ≤ 2 ^ 57 := Nat.pow_le_pow_right (by omega) (by omega)
        have : m * 2 ^ mo < 2 ^ 53 * 2 ^ 57 := Nat.mul_lt_mul_of_lt_of_le hm2 e (Nat.pow_pos (by omega))
        rw [← Nat.pow_add] at this
        exact this
      have hw : wh < 2 ^ 55 := by
        refine Nat.lt_of_not_le fun hc => ?_
        have : 2 ^ 55 * 2 ^ 55 ≤ wh * wh := Nat.mul_le_mul hc hc
        rw [← Nat.pow_add] at this
        omega
      obtain ⟨mag, hmag⟩ : ∃ mag, 2 * wh + (wh * wh != m <<< mo).toNat = mag := ⟨_, rfl⟩
      have hmag1 : mag < 2 ^ 56 := by
        have := Bool.toNat_le (wh * wh != m <<< mo)
        omega
      rw [hmag]
      refine ⟨_, rfl, ?_⟩
      show Ieee.double.nearest false mag _ ≤ _
      rcases Nat.eq_zero_or_pos mag with h | h
      · subst h
        unfold Ieee.Format.nearest
        rw [if_pos rfl]
        exact Nat.zero_le _
      · have hl2 := log2_le (m := mag) (k := 55) hmag1
        refine nearest_small mag _ (by omega) (by omega) (by omega)
    · exact ⟨0, by decide, by omega⟩
  obtain ⟨b, hb, hb2⟩ := key
  obtain ⟨n, hn, h2, h3⟩ := toInt_small b hb2
  refine ⟨n, ?_, h2, h3⟩
  unfold fsq
  rw [hb]
  show floatToIntVal .f64 b .i64 = some n
  unfold floatToIntVal
  have he : (FloatKind.f64.decode b).toInt .zero = some n := hn
  rw [he]
  show (if IntKind.i64.min ≤ n ∧ n ≤ IntKind.i64.max then some n else none) = some n
  have hmin : IntKind.i64.min = -9223372036854775808 := by decide
  have hmax : IntKind.i64.max = 9223372036854775807 := by decide
  rw [if_pos (by rw [hmin, hmax]; omega)]
end Go.Proofs.Ytmaegpblaihepaa.F
namespace Go.Proofs.Ytmaegpblaihepaa.F
open Go.RowKit Go.Proofs.YtmaegpblaihepaaW.PrintWords Go.Proofs.YtmaegpblaihepaaW.PrintLast Go.Proofs.YtmaegpblaihepaaW.PrintMore
set_option linter.unusedVariables false
set_option linter.unusedSimpArgs false
set_option maxRecDepth 100000 in
theorem math_Sqrt.calls (x r : Nat) (w : World) (h : Ieee.double.sqrt x = some r) : Calls Try.prog 46 #[.float .f64 x] w fun e w' => e = .returned (.float .f64 r) ∧ Below w.heap.size w w' := by
  have hx : ∀ W, (callFunc 51 #[.float .f64 x]).run Try.prog W = .ok (.value (.float .f64 r)) W := by
    intro W
    rw [run_callFunc_extern Try.func51 (by kernel_rfl) (by kernel_rfl) (by kernel_rfl) (e := Extern.MathSqrt.sqrt) (by kernel_rfl)]
    have hs : Extern.MathSqrt.sqrt #[.float .f64 x] = pure (.float .f64 r) := by
      show ((match FloatKind.f64.format.sqrt x with | some r => pure (Value.float .f64 r) | none => do pure (Value.float .f64 (← choose (.nanBits .f64 x x)))) : Sem Value) = _
      rw [show FloatKind.f64.format.sqrt x = some r from h]
    rw [hs]
    rfl
  go_enter Try.func46, Try.ntmps46
  go_wp2_with (first | ((with_reducible refine gate_dst (N := 4) rfl ?_); refine Kd.event_run rfl (hx _) ?_))
  go_ret
  exact ⟨rfl, Below.refl _ _⟩
end Go.Proofs.Ytmaegpblaihepaa.F
