/- Plain facts: what the fast method tells; it ends for all valid limits. -/
import Derived.Test.YtdfilkofhgmakaaMathC
import Derived.Test.YtdfilkofhgmakaaMathS
import Derived.Test.YtdfilkofhgmakaaFx7
import Derived.Test.YtdfilkofhgmakaaFs26
import Derived.OpenShut
import Derived.Lib.Hide
namespace Go.Proofs.Ytdfilkofhgmakaa.Pure
open Go.RowKit Go.Proofs.Ytdfilkofhgmakaa.F Go.Proofs.YtdfilkofhgmakaaW.PrintWords Go.Proofs.YtdfilkofhgmakaaW.PrintLast Go.Proofs.YtdfilkofhgmakaaW.PrintMore
set_option linter.unusedVariables false
set_option linter.unusedSimpArgs false
theorem smooth_eq (L : List Int) (S A J : Int) (k : Nat) : ∀ i v a, profile_Smooth.l0 k L (wrap64 ((L.length : Int) + 2)) i S A J v a = swarfref49_Smooth.l0 k L v a i S A J ∧
    ∀ x, profile_Smooth.j1 k L x (wrap64 ((L.length : Int) + 2)) i S A J v a = swarfref49_Smooth.j1 k L v a i x S A J := by
  induction k with
  | zero => intro i v a; exact ⟨rfl, fun _ => rfl⟩
  | succ k ih =>
    intro i v a
    constructor
    · simp only [profile_Smooth.l0, swarfref49_Smooth.l0, (ih _ _ _).2]
    · intro x
      simp only [profile_Smooth.j1, swarfref49_Smooth.j1, within_f, rwithin_f, (ih _ _ _).1]
theorem rsmooth_f (L : List Int) (S A J : Int) (k : Nat) : profile_Smooth.f k L S A J = swarfref49_Smooth.f k L S A J := by
  unfold profile_Smooth.f swarfref49_Smooth.f
  rw [valid_f, rvalid_f]
  simp only [Option.bind_some, (smooth_eq L S A J k _ _ _).1]

/-- what the closure of next tells -/
theorem fits_f {S A J v x rest : Int} (a : Int) (h : okL S A J) (hv : 0 ≤ v ∧ v ≤ S) (hx : -100000 ≤ x ∧ x ≤ 100000) (hr : 0 ≤ rest ∧ rest ≤ 1000000000000) :
    ∃ (t : Bool) (K : Nat), (∀ k, K ≤ k → profile_Limits_next_1.f k x v a rest S A J = some t) ∧ (t = true → v + x ≤ rest ∧ safeS S A J (v+x) x) := by
  have h' := h
  unfold okL at h'
  by_cases c : v + x ≤ rest
  · by_cases s : safeS S A J (v+x) x
    · obtain ⟨T, K, t⟩ := brk_all h s
      refine ⟨decide (T.sum ≤ wrap64 (rest - (v+x))), K + 1, fun k hk => ?_, fun _ => ⟨c, s⟩⟩
      · unfold profile_Limits_next_1.f
        rw [w64 (x := v + x) (by omega) (by omega), if_pos c, safe_f h k (by omega), decide_eq_true s]
        simp only [Option.bind_some, if_true]
        unfold profile_Limits_distance.f
        rw [t.dist k (by omega) 0 (by omega) (by omega)]
        simp only [Option.bind_some, Int.zero_add]
    · refine ⟨false, 1, fun k hk => ?_, fun z => by cases z⟩
      unfold profile_Limits_next_1.f
      rw [w64 (x := v + x) (by omega) (by omega), if_pos c, safe_f h k (by omega), decide_eq_false s]
      simp only [Option.bind_some]
      rw [if_neg (by decide)]
  · refine ⟨false, 0, fun k hk => ?_, fun z => by cases z⟩
    unfold profile_Limits_next_1.f
    rw [w64 (x := v + x) (by omega) (by omega), if_neg c]
theorem next_l0 {S A J v a rest : Int} (h : okL S A J) (hv : 0 ≤ v ∧ v ≤ S) (hr : 0 ≤ rest ∧ rest ≤ 1000000000000) (d : Nat) : ∀ (lo hi : Int), hi - lo ≤ d → -100000 ≤ lo → lo ≤ hi → hi ≤ 100000 → v + lo ≤ rest → safeS S A J (v+lo) lo →
    ∃ (b : Int) (K : Nat), lo ≤ b ∧ v + b ≤ rest ∧ safeS S A J (v+b) b ∧ ∀ k, K ≤ k → profile_Limits_next.l0 k lo hi S A J v a rest = some (v + b, b, true) := by
  have h' := h
  unfold okL at h'
  induction d with
  | zero =>
    intro lo hi h1 h2 h3 h4 h5 h6
    refine ⟨lo, 1, by omega, h5, h6, fun k hk => ?_⟩
    obtain ⟨k, rfl⟩ : ∃ m, k = m + 1 := ⟨k - 1, by omega⟩
    rw [profile_Limits_next.l0, if_neg (by omega), w64 (x := v + lo) (by omega) (by omega)]
  | succ d ih =>
    intro lo hi h1 h2 h3 h4 h5 h6
    by_cases c : lo < hi
    · have em : wrap64 (lo + wrap64 (Int.tdiv (wrap64 (wrap64 (hi - lo) + 1)) 2)) = lo + (hi - lo + 1) / 2 := by
        rw [w64 (x := hi - lo) (by omega) (by omega), w64 (x := hi - lo + 1) (by omega) (by omega), Int.tdiv_eq_ediv_of_nonneg (by omega), w64 (x := (hi - lo + 1) / 2) (by omega) (by omega), w64 (x := lo + (hi - lo + 1) / 2) (by omega) (by omega)]
      obtain ⟨m, hm⟩ : ∃ m, lo + (hi - lo + 1) / 2 = m := ⟨_, rfl⟩
      rw [hm] at em
      have m1 : lo < m := by omega
      have m2 : m ≤ hi := by omega
      have HM := Lib.hid em
      clear em hm
      obtain ⟨t, K1, f1, f2⟩ := fits_f (x := m) a h hv (by omega) hr
      cases t with
      | true =>
        obtain ⟨g1, g2⟩ := f2 rfl
        obtain ⟨b, K2, b1, b2, b3, b4⟩ := ih m hi (by omega) (by omega) (by omega) (by omega) g1 g2
        refine ⟨b, K1 + K2 + 1, by omega, b2, b3, fun k hk => ?_⟩
        obtain ⟨k, rfl⟩ : ∃ m, k = m + 1 := ⟨k - 1, by omega⟩
        rw [profile_Limits_next.l0, if_pos c, HM.out, f1 k (by omega)]
        simp only [Option.bind_some, if_true]
        exact b4 k (by omega)
      | false =>
        obtain ⟨b, K2, b1, b2, b3, b4⟩ := ih lo (m-1) (by omega) (by omega) (by omega) (by omega) h5 h6
        refine ⟨b, K1 + K2 + 1, by omega, b2, b3, fun k hk => ?_⟩
        obtain ⟨k, rfl⟩ : ∃ m, k = m + 1 := ⟨k - 1, by omega⟩
        rw [profile_Limits_next.l0, if_pos c, HM.out, f1 k (by omega)]
        simp only [Option.bind_some]
        rw [if_neg (by decide), w64 (x := m - 1) (by omega) (by omega)]
        exact b4 k (by omega)
    · refine ⟨lo, 1, by omega, h5, h6, fun k hk => ?_⟩
      obtain ⟨k, rfl⟩ : ∃ m, k = m + 1 := ⟨k - 1, by omega⟩
      rw [profile_Limits_next.l0, if_neg c, w64 (x := v + lo) (by omega) (by omega)]
theorem next_f {S A J v a rest : Int} (h : okL S A J) (s : safeS S A J v a) (hr : 0 ≤ rest ∧ rest ≤ 1000000000000) :
    ∃ (v' a' : Int) (ok : Bool) (K : Nat), (∀ k, K ≤ k → profile_Limits_next.f k S A J v a rest = some (v', a', ok)) ∧ (ok = true → 1 ≤ v' ∧ v' ≤ rest ∧ safeS S A J v' a') := by
  have h' := h
  unfold okL at h'
  have s1 := s.1
  have s2 := s.2.1
  have s3 := s.2.2.1
  have s4 := s.2.2.2.1
  obtain ⟨b, -, hb⟩ := brake_f h s 30 (by omega)
  have hbr : ∀ k, 30 ≤ k → profile_Limits_brake.f k S A J v a = some (v + b, b) := by
    intro k hk
    obtain ⟨c, e, hc⟩ := brake_f h s k hk
    rw [e, hc.unique hb]
  obtain ⟨n1, -⟩ := br_next h s hb
  have n3 := n1.2.2.1
  have n4 := n1.2.2.2.1
  obtain ⟨lo, hlo⟩ : ∃ lo, mx b (1 - v) = lo := ⟨_, rfl⟩
  obtain ⟨hi, hhi⟩ : ∃ hi, mn (mn A (a + J)) (rest - v) = hi := ⟨_, rfl⟩
  have l := mx_eq b (1 - v)
  have u1 := mn_eq A (a + J)
  have u2 := mn_eq (mn A (a + J)) (rest - v)
  rw [hlo] at l
  rw [hhi] at u2
  have ef : ∀ k, 30 ≤ k → profile_Limits_next.f k S A J v a rest = if lo > hi then some (0, 0, false) else (profile_Limits_next_1.f k lo v a rest S A J).bind fun t => (if t = true then profile_Limits_next.l0 k lo hi S A J v a rest else some (0, 0, false)) := by
    intro k hk
    unfold profile_Limits_next.f
    rw [hbr k hk]
    simp only [Option.bind_some]
    rw [w64 (x := 1 - v) (by omega) (by omega), w64 (x := a + J) (by omega) (by omega), w64 (x := rest - v) (by omega) (by omega), hlo, hhi]
  by_cases c : lo > hi
  · refine ⟨0, 0, false, 30, fun k hk => ?_, fun z => by cases z⟩
    rw [ef k hk, if_pos c]
  · obtain ⟨t, K1, f1, f2⟩ := fits_f (x := lo) a h ⟨s1, s2⟩ (by omega) hr
    cases t with
    | false =>
      refine ⟨0, 0, false, K1 + 30, fun k hk => ?_, fun z => by cases z⟩
      rw [ef k (by omega), if_neg c, f1 k (by omega)]
      rfl
    | true =>
      obtain ⟨g1, g2⟩ := f2 rfl
      obtain ⟨b', K2, b1, b2, b3, b4⟩ := next_l0 (a := a) h ⟨s1, s2⟩ hr (hi - lo).toNat lo hi (by omega) (by omega) (by omega) (by omega) g1 g2
      refine ⟨v + b', b', true, K1 + K2 + 30, fun k hk => ?_, fun _ => ⟨by omega, b2, b3⟩⟩
      rw [ef k (by omega), if_neg c, f1 k (by omega)]
      simp only [Option.bind_some, if_true]
      exact b4 k (by omega)
/-- what the loop of fast tells -/
theorem fast_l0 {S A J n : Int} (h : okL S A J) (hn : 0 ≤ n ∧ n ≤ 5000) (d : Nat) : ∀ (out : List Int) (rest v a : Int), rest ≤ d → 0 ≤ rest → rest ≤ 1000000000000 → (out.length : Int) ≤ n → safeS S A J v a →
    ∃ (L : List Int) (ok : Bool) (K : Nat), (∀ k, K ≤ k → profile_Limits_fast.l0 k n out rest S A J v a = some (L, ok)) ∧
      (ok = true → ∃ T, L = out ++ T ∧ T.sum = rest ∧ (∀ x ∈ T, 0 < x) ∧ (L.length : Int) ≤ n ∧ smo S A J 0 0 L = true) := by
  induction d with
  | zero =>
    intro out rest v a h1 h2 h3 h4 h5
    obtain rfl : rest = 0 := by omega
    refine ⟨out, smo S A J 0 0 out, 2*out.length + 7, fun k hk => ?_, fun z => ⟨[], by simp, by simp, by simp, h4, z⟩⟩
    obtain ⟨k, rfl⟩ : ∃ m, k = m + 1 := ⟨k - 1, by omega⟩
    rw [profile_Limits_fast.l0, if_neg (by omega), rsmooth_f, smooth_f out S A J (by omega) k (by omega), decide_eq_true h]
    rfl
  | succ d ih =>
    intro out rest v a h1 h2 h3 h4 h5
    by_cases c : rest > 0
    · obtain ⟨v', a', ok, K1, f1, f2⟩ := next_f h h5 ⟨h2, h3⟩
      cases ok with
      | false =>
        refine ⟨[], false, K1 + 1, fun k hk => ?_, fun z => by cases z⟩
        obtain ⟨k, rfl⟩ : ∃ m, k = m + 1 := ⟨k - 1, by omega⟩
        rw [profile_Limits_fast.l0, if_pos c, f1 k (by omega)]
        rfl
      | true =>
        obtain ⟨g1, g2, g3⟩ := f2 rfl
        by_cases e : (out.length : Int) = n
        · refine ⟨[], false, K1 + 1, fun k hk => ?_, fun z => by cases z⟩
          obtain ⟨k, rfl⟩ : ∃ m, k = m + 1 := ⟨k - 1, by omega⟩
          rw [profile_Limits_fast.l0, if_pos c, f1 k (by omega)]
          simp only [Option.bind_some, if_true]
          rw [if_pos e]
        · obtain ⟨L, ok, K2, p1, p2⟩ := ih (out ++ [v']) (rest - v') v' a' (by omega) (by omega) (by omega) (by rw [List.length_append]; simp; omega) g3
          refine ⟨L, ok, K1 + K2 + 1, fun k hk => ?_, fun z => ?_⟩
          · obtain ⟨k, rfl⟩ : ∃ m, k = m + 1 := ⟨k - 1, by omega⟩
            rw [profile_Limits_fast.l0, if_pos c, f1 k (by omega)]
            simp only [Option.bind_some, if_true]
            rw [if_neg e, if_pos (by omega), w64 (x := rest - v') (by omega) (by omega)]
            exact p1 k (by omega)
          · obtain ⟨T, t1, t2, t3, t4, t5⟩ := p2 z
            refine ⟨v' :: T, by rw [t1]; simp, by rw [List.sum_cons, t2]; omega, ?_, t4, t5⟩
            intro x hx
            rcases List.mem_cons.1 hx with rfl | hx
            · omega
            · exact t3 x hx
    · obtain rfl : rest = 0 := by omega
      refine ⟨out, smo S A J 0 0 out, 2*out.length + 7, fun k hk => ?_, fun z => ⟨[], by simp, by simp, by simp, h4, z⟩⟩
      obtain ⟨k, rfl⟩ : ∃ m, k = m + 1 := ⟨k - 1, by omega⟩
      rw [profile_Limits_fast.l0, if_neg (by omega), rsmooth_f, smooth_f out S A J (by omega) k (by omega), decide_eq_true h]
      rfl
theorem safe0 {S A J : Int} (h : okL S A J) : safeS S A J 0 0 := by
  unfold okL at h
  have f0 : fad J (-0) = 0 := fad_low (by omega)
  refine ⟨by omega, by omega, by omega, by omega, fun z => by omega, fun _ => ?_⟩
  rw [f0]; omega
theorem fast_f {S A J n len : Int} (h : okL S A J) (hn : 0 ≤ n ∧ n ≤ 5000) (hl : 0 ≤ len ∧ len ≤ 1000000000000) :
    ∃ (L : List Int) (ok : Bool) (K : Nat), (∀ k, K ≤ k → profile_Limits_fast.f k S A J len n = some (L, ok)) ∧
      (ok = true → L.sum = len ∧ (∀ x ∈ L, 0 < x) ∧ (L.length : Int) ≤ n ∧ smo S A J 0 0 L = true) := by
  have h' := h
  unfold okL at h'
  by_cases c : wrap64 (wrap64 (Int.tdiv S A) + wrap64 (Int.tdiv A J)) > 100
  · refine ⟨[], false, 1, fun k hk => ?_, fun z => by cases z⟩
    obtain ⟨k, rfl⟩ : ∃ m, k = m + 1 := ⟨k - 1, by omega⟩
    unfold profile_Limits_fast.f
    rw [if_neg (by omega), if_neg (by omega), if_neg (by omega), decide_eq_true c, profile_Limits_fast.j0, if_pos rfl]
  · obtain ⟨L, ok, K, p1, p2⟩ := fast_l0 h hn len.toNat [] len 0 0 (by omega) hl.1 hl.2 (by simp; omega) (safe0 h)
    refine ⟨L, ok, K + 1, fun k hk => ?_, fun z => ?_⟩
    · obtain ⟨k, rfl⟩ : ∃ m, k = m + 1 := ⟨k - 1, by omega⟩
      unfold profile_Limits_fast.f
      rw [if_neg (by omega), if_neg (by omega), if_neg (by omega), decide_eq_false c, profile_Limits_fast.j0, if_neg (by decide)]
      exact p1 k (by omega)
    · obtain ⟨T, t1, t2, t3, t4, t5⟩ := p2 z
      rw [List.nil_append] at t1
      subst t1
      exact ⟨t2, t3, t4, t5⟩

end Go.Proofs.Ytdfilkofhgmakaa.Pure
