/- Plain facts: what Steps tells in few ticks. -/
import Derived.Test.YtmaegpblaihepaaMa
import Derived.Test.YtmaegpblaihepaaFa
import Derived.Test.YtmaegpblaihepaaFx11
import Derived.Test.YtmaegpblaihepaaFx16
import Derived.Test.YtmaegpblaihepaaFx17
import Derived.Test.YtmaegpblaihepaaFx18
import Derived.OpenShut
import Derived.Lib.Hide
namespace Go.Proofs.Ytmaegpblaihepaa.Pure
open Go.RowKit Go.Proofs.Ytmaegpblaihepaa.F Go.Proofs.YtmaegpblaihepaaW.PrintWords Go.Proofs.YtmaegpblaihepaaW.PrintLast Go.Proofs.YtmaegpblaihepaaW.PrintMore
set_option linter.unusedVariables false
set_option linter.unusedSimpArgs false
theorem smooth_j1 (L : List Int) (S A J : Int) (h : okL S A J) (k : Nat) (v a x i : Int) (hv : 0 ≤ v ∧ v ≤ S) (ha : -100000 ≤ a ∧ a ≤ 100000) :
    profile_Smooth.j1 (k+1) L x ((L.length : Int) + 2) i S A J v a = if okStep S A J v a x then profile_Smooth.l0 k L ((L.length : Int) + 2) (wrap64 (i+1)) S A J x (x-v) else some false := by
  unfold okL at h
  simp only [profile_Smooth.j1, within_f, Option.bind_some, decide_eq_true_eq]
  by_cases c1 : 0 ≤ x ∧ x ≤ S
  · rw [if_pos c1, w64 (x := x - v) (by omega) (by omega), w64 (x := -A) (by omega) (by omega), w64 (x := x - v - a) (by omega) (by omega), w64 (x := -J) (by omega) (by omega)]
    by_cases c2 : -A ≤ x - v ∧ x - v ≤ A
    · rw [if_pos c2]
      by_cases c3 : -J ≤ x - v - a ∧ x - v - a ≤ J
      · rw [if_pos c3, if_pos (show okStep S A J v a x by unfold okStep; omega)]
      · rw [if_neg c3, if_neg (show ¬ okStep S A J v a x by unfold okStep; omega)]
    · rw [if_neg c2, if_neg (show ¬ okStep S A J v a x by unfold okStep; omega)]
  · rw [if_neg c1, if_neg (show ¬ okStep S A J v a x by unfold okStep; omega)]

theorem smooth_l0 (L : List Int) (S A J : Int) (h : okL S A J) (hn : L.length ≤ 1000000000) (d : Nat) : ∀ (k i : Nat) (v a : Int), L.length - i = d → i ≤ L.length → 2*d + 6 ≤ k → 0 ≤ v ∧ v ≤ S → -100000 ≤ a ∧ a ≤ 100000 →
    profile_Smooth.l0 k L ((L.length : Int) + 2) i S A J v a = some (smo S A J v a (L.drop i)) := by
  have h' := h
  unfold okL at h'
  induction d with
  | zero =>
    intro k i v a e1 e2 e3 hv ha
    obtain ⟨k, rfl⟩ : ∃ m, k = m + 5 := ⟨k - 5, by omega⟩
    have hd : L.drop i = [] := List.drop_eq_nil_of_le (by omega)
    rw [profile_Smooth.l0, if_pos (by omega), if_neg (by omega), smooth_j1 L S A J h _ _ _ _ _ hv ha, hd]
    simp only [smo]
    by_cases c : okStep S A J v a 0
    · have c' := c
      unfold okStep at c'
      rw [if_pos c, w64 (x := (i:Int)+1) (by omega) (by omega), profile_Smooth.l0, if_pos (by omega), if_neg (by omega), smooth_j1 L S A J h _ _ _ _ _ (by omega) (by omega)]
      by_cases c2 : okStep S A J 0 (0-v) 0
      · rw [if_pos c2, w64 (x := (i:Int)+1+1) (by omega) (by omega), profile_Smooth.l0, if_neg (by omega)]; simp only [c, c2, decide_true, Bool.and_self]
      · rw [if_neg c2]; simp only [c2, decide_false, Bool.and_false]
    · rw [if_neg c]; simp only [c, decide_false, Bool.false_and]
  | succ d ih =>
    intro k i v a e1 e2 e3 hv ha
    obtain ⟨k, rfl⟩ : ∃ m, k = m + 2 := ⟨k - 2, by omega⟩
    have hi : i < L.length := by omega
    have er : rd L (i:Int) = L[i] := by unfold rd; simp [hi]
    have hd : L.drop i = L[i] :: L.drop (i+1) := List.drop_eq_getElem_cons hi
    rw [profile_Smooth.l0, if_pos (by omega), if_pos (by omega), if_pos (by omega), er, smooth_j1 L S A J h _ _ _ _ _ hv ha, hd]
    simp only [smo]
    by_cases c : okStep S A J v a L[i]
    · have c' := c
      unfold okStep at c'
      have nx := ih k (i+1) L[i] (L[i]-v) (by omega) (by omega) (by omega) (by omega) (by omega)
      rw [show ((i+1 : Nat) : Int) = (i:Int)+1 by omega] at nx
      rw [if_pos c, w64 (x := (i:Int)+1) (by omega) (by omega), nx]
      simp only [c, decide_true, Bool.true_and]
    · rw [if_neg c]; simp only [c, decide_false, Bool.false_and]

theorem smooth_f (L : List Int) (S A J : Int) (hn : L.length ≤ 1000000000) (k : Nat) (hk : 2*L.length + 6 ≤ k) :
    profile_Smooth.f k L S A J = some (decide (okL S A J) && smo S A J 0 0 L) := by
  unfold profile_Smooth.f
  rw [valid_f]
  simp only [Option.bind_some]
  by_cases o : okL S A J
  · rw [if_pos o, if_pos rfl, w64 (x := (L.length:Int)+2) (by omega) (by omega)]
    have o' := o
    unfold okL at o'
    have s := smooth_l0 L S A J o hn L.length k 0 0 0 (by omega) (by omega) (by omega) (by omega) (by omega)
    rw [List.drop_zero] at s
    simp only [o, decide_true, Bool.true_and]
    exact s
  · rw [if_neg o, if_neg (by omega)]; simp [o]


/-- what the closure of next tells -/
theorem fits_f {S A J v x rest : Int} (a : Int) (h : okL S A J) (hv : 0 ≤ v ∧ v ≤ S) (hx : -100000 ≤ x ∧ x ≤ 100000) (hr : 0 ≤ rest ∧ rest ≤ 1000000000000) :
    ∃ (t : Bool) (K : Nat), (∀ k, K ≤ k → profile_Limits_next_1.f k x v a rest S A J = some t) ∧ (t = true → v + x ≤ rest ∧ safeS S A J (v+x) x) := by
  have h' := h
  unfold okL at h'
  by_cases c : v + x ≤ rest
  · by_cases s : safeS S A J (v+x) x
    · obtain ⟨T, K, t⟩ := brk_all h s
      refine ⟨decide (T.sum ≤ wrap64 (rest - (v+x))), K + 1, fun k hk => ?_, fun _ => ⟨c, s⟩⟩
      · unfold profile_Limits_next_1.f
        rw [w64 (x := v + x) (by omega) (by omega), if_pos c, safe_f h k (by omega), decide_eq_true s]
        simp only [Option.bind_some, if_true]
        unfold profile_Limits_distance.f
        rw [t.dist k (by omega) 0 (by omega) (by omega)]
        simp only [Option.bind_some, Int.zero_add]
    · refine ⟨false, 1, fun k hk => ?_, fun z => by cases z⟩
      unfold profile_Limits_next_1.f
      rw [w64 (x := v + x) (by omega) (by omega), if_pos c, safe_f h k (by omega), decide_eq_false s]
      simp only [Option.bind_some]
      rw [if_neg (by decide)]
  · refine ⟨false, 0, fun k hk => ?_, fun z => by cases z⟩
    unfold profile_Limits_next_1.f
    rw [w64 (x := v + x) (by omega) (by omega), if_neg c]
theorem next_l0 {S A J v a rest : Int} (h : okL S A J) (hv : 0 ≤ v ∧ v ≤ S) (hr : 0 ≤ rest ∧ rest ≤ 1000000000000) (d : Nat) : ∀ (lo hi : Int), hi - lo ≤ d → -100000 ≤ lo → lo ≤ hi → hi ≤ 100000 → v + lo ≤ rest → safeS S A J (v+lo) lo →
    ∃ (b : Int) (K : Nat), lo ≤ b ∧ v + b ≤ rest ∧ safeS S A J (v+b) b ∧ ∀ k, K ≤ k → profile_Limits_next.l0 k lo hi S A J v a rest = some (v + b, b, true) := by
  have h' := h
  unfold okL at h'
  induction d with
  | zero =>
    intro lo hi h1 h2 h3 h4 h5 h6
    refine ⟨lo, 1, by omega, h5, h6, fun k hk => ?_⟩
    obtain ⟨k, rfl⟩ : ∃ m, k = m + 1 := ⟨k - 1, by omega⟩
    rw [profile_Limits_next.l0, if_neg (by omega), w64 (x := v + lo) (by omega) (by omega)]
  | succ d ih =>
    intro lo hi h1 h2 h3 h4 h5 h6
    by_cases c : lo < hi
    · have em : wrap64 (lo + wrap64 (Int.tdiv (wrap64 (wrap64 (hi - lo) + 1)) 2)) = lo + (hi - lo + 1) / 2 := by
        rw [w64 (x := hi - lo) (by omega) (by omega), w64 (x := hi - lo + 1) (by omega) (by omega), Int.tdiv_eq_ediv_of_nonneg (by omega), w64 (x := (hi - lo + 1) / 2) (by omega) (by omega), w64 (x := lo + (hi - lo + 1) / 2) (by omega) (by omega)]
      obtain ⟨m, hm⟩ : ∃ m, lo + (hi - lo + 1) / 2 = m := ⟨_, rfl⟩
      rw [hm] at em
      have m1 : lo < m := by omega
      have m2 : m ≤ hi := by omega
      have HM := Lib.hid em
      clear em hm
      obtain ⟨t, K1, f1, f2⟩ := fits_f (x := m) a h hv (by omega) hr
      cases t with
      | true =>
        obtain ⟨g1, g2⟩ := f2 rfl
        obtain ⟨b, K2, b1, b2, b3, b4⟩ := ih m hi (by omega) (by omega) (by omega) (by omega) g1 g2
        refine ⟨b, K1 + K2 + 1, by omega, b2, b3, fun k hk => ?_⟩
        obtain ⟨k, rfl⟩ : ∃ m, k = m + 1 := ⟨k - 1, by omega⟩
        rw [profile_Limits_next.l0, if_pos c, HM.out, f1 k (by omega)]
        simp only [Option.bind_some, if_true]
        exact b4 k (by omega)
      | false =>
        obtain ⟨b, K2, b1, b2, b3, b4⟩ := ih lo (m-1) (by omega) (by omega) (by omega) (by omega) h5 h6
        refine ⟨b, K1 + K2 + 1, by omega, b2, b3, fun k hk => ?_⟩
        obtain ⟨k, rfl⟩ : ∃ m, k = m + 1 := ⟨k - 1, by omega⟩
        rw [profile_Limits_next.l0, if_pos c, HM.out, f1 k (by omega)]
        simp only [Option.bind_some]
        rw [if_neg (by decide), w64 (x := m - 1) (by omega) (by omega)]
        exact b4 k (by omega)
    · refine ⟨lo, 1, by omega, h5, h6, fun k hk => ?_⟩
      obtain ⟨k, rfl⟩ : ∃ m, k = m + 1 := ⟨k - 1, by omega⟩
      rw [profile_Limits_next.l0, if_neg c, w64 (x := v + lo) (by omega) (by omega)]
theorem next_f {S A J v a rest : Int} (h : okL S A J) (s : safeS S A J v a) (hr : 0 ≤ rest ∧ rest ≤ 1000000000000) :
    ∃ (v' a' : Int) (ok : Bool) (K : Nat), (∀ k, K ≤ k → profile_Limits_next.f k S A J v a rest = some (v', a', ok)) ∧ (ok = true → 1 ≤ v' ∧ v' ≤ rest ∧ safeS S A J v' a') := by
  have h' := h
  unfold okL at h'
  have s1 := s.1
  have s2 := s.2.1
  have s3 := s.2.2.1
  have s4 := s.2.2.2.1
  obtain ⟨b, -, hb⟩ := brake_f h s 30 (by omega)
  have hbr : ∀ k, 30 ≤ k → profile_Limits_brake.f k S A J v a = some (v + b, b) := by
    intro k hk
    obtain ⟨c, e, hc⟩ := brake_f h s k hk
    rw [e, hc.unique hb]
  obtain ⟨n1, -⟩ := br_next h s hb
  have n3 := n1.2.2.1
  have n4 := n1.2.2.2.1
  obtain ⟨lo, hlo⟩ : ∃ lo, mx b (1 - v) = lo := ⟨_, rfl⟩
  obtain ⟨hi, hhi⟩ : ∃ hi, mn (mn A (a + J)) (rest - v) = hi := ⟨_, rfl⟩
  have l := mx_eq b (1 - v)
  have u1 := mn_eq A (a + J)
  have u2 := mn_eq (mn A (a + J)) (rest - v)
  rw [hlo] at l
  rw [hhi] at u2
  have ef : ∀ k, 30 ≤ k → profile_Limits_next.f k S A J v a rest = if lo > hi then some (0, 0, false) else (profile_Limits_next_1.f k lo v a rest S A J).bind fun t => (if t = true then profile_Limits_next.l0 k lo hi S A J v a rest else some (0, 0, false)) := by
    intro k hk
    unfold profile_Limits_next.f
    rw [hbr k hk]
    simp only [Option.bind_some]
    rw [w64 (x := 1 - v) (by omega) (by omega), w64 (x := a + J) (by omega) (by omega), w64 (x := rest - v) (by omega) (by omega), hlo, hhi]
  by_cases c : lo > hi
  · refine ⟨0, 0, false, 30, fun k hk => ?_, fun z => by cases z⟩
    rw [ef k hk, if_pos c]
  · obtain ⟨t, K1, f1, f2⟩ := fits_f (x := lo) a h ⟨s1, s2⟩ (by omega) hr
    cases t with
    | false =>
      refine ⟨0, 0, false, K1 + 30, fun k hk => ?_, fun z => by cases z⟩
      rw [ef k (by omega), if_neg c, f1 k (by omega)]
      rfl
    | true =>
      obtain ⟨g1, g2⟩ := f2 rfl
      obtain ⟨b', K2, b1, b2, b3, b4⟩ := next_l0 (a := a) h ⟨s1, s2⟩ hr (hi - lo).toNat lo hi (by omega) (by omega) (by omega) (by omega) g1 g2
      refine ⟨v + b', b', true, K1 + K2 + 30, fun k hk => ?_, fun _ => ⟨by omega, b2, b3⟩⟩
      rw [ef k (by omega), if_neg c, f1 k (by omega)]
      simp only [Option.bind_some, if_true]
      exact b4 k (by omega)
/-- what the loop of fast tells -/
theorem fast_l0 {S A J n : Int} (h : okL S A J) (hn : 0 ≤ n ∧ n ≤ 5000) (d : Nat) : ∀ (out : List Int) (rest v a : Int), rest ≤ d → 0 ≤ rest → rest ≤ 1000000000000 → (out.length : Int) ≤ n → safeS S A J v a →
    ∃ (L : List Int) (ok : Bool) (K : Nat), (∀ k, K ≤ k → profile_Limits_fast.l0 k n out rest S A J v a = some (L, ok)) ∧
      (ok = true → ∃ T, L = out ++ T ∧ T.sum = rest ∧ (∀ x ∈ T, 0 < x) ∧ (L.length : Int) ≤ n ∧ smo S A J 0 0 L = true) := by
  induction d with
  | zero =>
    intro out rest v a h1 h2 h3 h4 h5
    obtain rfl : rest = 0 := by omega
    refine ⟨out, smo S A J 0 0 out, 2*out.length + 7, fun k hk => ?_, fun z => ⟨[], by simp, by simp, by simp, h4, z⟩⟩
    obtain ⟨k, rfl⟩ : ∃ m, k = m + 1 := ⟨k - 1, by omega⟩
    rw [profile_Limits_fast.l0, if_neg (by omega), smooth_f out S A J (by omega) k (by omega), decide_eq_true h]
    rfl
  | succ d ih =>
    intro out rest v a h1 h2 h3 h4 h5
    by_cases c : rest > 0
    · obtain ⟨v', a', ok, K1, f1, f2⟩ := next_f h h5 ⟨h2, h3⟩
      cases ok with
      | false =>
        refine ⟨[], false, K1 + 1, fun k hk => ?_, fun z => by cases z⟩
        obtain ⟨k, rfl⟩ : ∃ m, k = m + 1 := ⟨k - 1, by omega⟩
        rw [profile_Limits_fast.l0, if_pos c, f1 k (by omega)]
        rfl
      | true =>
        obtain ⟨g1, g2, g3⟩ := f2 rfl
        by_cases e : (out.length : Int) = n
        · refine ⟨[], false, K1 + 1, fun k hk => ?_, fun z => by cases z⟩
          obtain ⟨k, rfl⟩ : ∃ m, k = m + 1 := ⟨k - 1, by omega⟩
          rw [profile_Limits_fast.l0, if_pos c, f1 k (by omega)]
          simp only [Option.bind_some, if_true]
          rw [if_pos e]
        · obtain ⟨L, ok, K2, p1, p2⟩ := ih (out ++ [v']) (rest - v') v' a' (by omega) (by omega) (by omega) (by rw [List.length_append]; simp; omega) g3
          refine ⟨L, ok, K1 + K2 + 1, fun k hk => ?_, fun z => ?_⟩
          · obtain ⟨k, rfl⟩ : ∃ m, k = m + 1 := ⟨k - 1, by omega⟩
            rw [profile_Limits_fast.l0, if_pos c, f1 k (by omega)]
            simp only [Option.bind_some, if_true]
            rw [if_neg e, if_pos (by omega), w64 (x := rest - v') (by omega) (by omega)]
            exact p1 k (by omega)
          · obtain ⟨T, t1, t2, t3, t4, t5⟩ := p2 z
            refine ⟨v' :: T, by rw [t1]; simp, by rw [List.sum_cons, t2]; omega, ?_, t4, t5⟩
            intro x hx
            rcases List.mem_cons.1 hx with rfl | hx
            · omega
            · exact t3 x hx
    · obtain rfl : rest = 0 := by omega
      refine ⟨out, smo S A J 0 0 out, 2*out.length + 7, fun k hk => ?_, fun z => ⟨[], by simp, by simp, by simp, h4, z⟩⟩
      obtain ⟨k, rfl⟩ : ∃ m, k = m + 1 := ⟨k - 1, by omega⟩
      rw [profile_Limits_fast.l0, if_neg (by omega), smooth_f out S A J (by omega) k (by omega), decide_eq_true h]
      rfl
theorem safe0 {S A J : Int} (h : okL S A J) : safeS S A J 0 0 := by
  unfold okL at h
  have f0 : fad J (-0) = 0 := fad_low (by omega)
  refine ⟨by omega, by omega, by omega, by omega, fun z => by omega, fun _ => ?_⟩
  rw [f0]; omega
theorem fast_f {S A J n len : Int} (h : okL S A J) (hn : 0 ≤ n ∧ n ≤ 5000) (hl : 0 ≤ len ∧ len ≤ 1000000000000) :
    ∃ (L : List Int) (ok : Bool) (K : Nat), (∀ k, K ≤ k → profile_Limits_fast.f k S A J len n = some (L, ok)) ∧
      (ok = true → L.sum = len ∧ (∀ x ∈ L, 0 < x) ∧ (L.length : Int) ≤ n ∧ smo S A J 0 0 L = true) := by
  have h' := h
  unfold okL at h'
  by_cases c : wrap64 (wrap64 (Int.tdiv S A) + wrap64 (Int.tdiv A J)) > 100
  · refine ⟨[], false, 1, fun k hk => ?_, fun z => by cases z⟩
    obtain ⟨k, rfl⟩ : ∃ m, k = m + 1 := ⟨k - 1, by omega⟩
    unfold profile_Limits_fast.f
    rw [if_neg (by omega), if_neg (by omega), if_neg (by omega), decide_eq_true c, profile_Limits_fast.j0, if_pos rfl]
  · obtain ⟨L, ok, K, p1, p2⟩ := fast_l0 h hn len.toNat [] len 0 0 (by omega) hl.1 hl.2 (by simp; omega) (safe0 h)
    refine ⟨L, ok, K + 1, fun k hk => ?_, fun z => ?_⟩
    · obtain ⟨k, rfl⟩ : ∃ m, k = m + 1 := ⟨k - 1, by omega⟩
      unfold profile_Limits_fast.f
      rw [if_neg (by omega), if_neg (by omega), if_neg (by omega), decide_eq_false c, profile_Limits_fast.j0, if_neg (by decide)]
      exact p1 k (by omega)
    · obtain ⟨T, t1, t2, t3, t4, t5⟩ := p2 z
      rw [List.nil_append] at t1
      subst t1
      exact ⟨t2, t3, t4, t5⟩
/-- the distance of the simple method -/
def simU (S A J : Int) : Int := mn (mn S A) (wrap64 (Int.tdiv J 2))
theorem simU_ok {S A J : Int} (h : okL S A J) : 1 ≤ simU S A J ∧ simU S A J ≤ S ∧ simU S A J ≤ A ∧ 2 * simU S A J ≤ J := by
  unfold okL at h
  unfold simU
  rw [Int.tdiv_eq_ediv_of_nonneg (by omega), w64 (by omega) (by omega)]
  unfold mn
  split <;> split <;> omega
def ticksS (n S A J : Int) : Int × Int :=
  if okL S A J ∧ 0 ≤ n then (if n > 1000000000000 then (0, 3) else ((n + simU S A J - 1) / simU S A J, 0)) else (0, 1)
theorem ticks_f (n S A J : Int) (k : Nat) (hk : 1 ≤ k) : profile_Ticks.f k n S A J = some (ticksS n S A J) := by
  obtain ⟨k, rfl⟩ : ∃ m, k = m + 1 := ⟨k - 1, by omega⟩
  unfold profile_Ticks.f ticksS
  rw [valid_f]
  simp only [Option.bind_some]
  by_cases o : okL S A J
  · rw [if_pos o, if_pos rfl, profile_Ticks.j0]
    by_cases c : n < 0
    · rw [if_pos (by simpa using c), if_neg (by omega)]
    · rw [if_neg (by simpa using c), if_pos (show okL S A J ∧ 0 ≤ n from ⟨o, by omega⟩)]
      by_cases d : n > 1000000000000
      · rw [if_pos d, if_pos d]
      · have u := simU_ok o
        rw [if_neg d, if_neg d]
        unfold profile_Limits_simple.f
        simp only [Option.bind_some]
        rw [show mn (mn S A) (wrap64 (Int.tdiv J 2)) = simU S A J from rfl]
        unfold okL at o
        have q := Int.ediv_le_self (simU S A J) (show 0 ≤ n + simU S A J - 1 by omega)
        have q0 := Int.ediv_nonneg (show 0 ≤ n + simU S A J - 1 by omega) (show 0 ≤ simU S A J by omega)
        rw [if_neg (by omega), w64 (x := n + simU S A J) (by omega) (by omega), w64 (x := n + simU S A J - 1) (by omega) (by omega), Int.tdiv_eq_ediv_of_nonneg (by omega), w64 (by omega) (by omega)]
  · rw [if_neg o, if_neg (by omega), profile_Ticks.j0, if_pos rfl, if_neg (by simp [o])]
theorem rd_at (l : List Int) (i : Nat) (hi : i < l.length) : rd l (i:Int) = l[i] := by unfold rd; simp [hi]
theorem rd_last (l : List Int) (x : Int) (hl : l.length < 17592186044416) : wrap64 (((l ++ [x]).length : Int) - 1) = (l.length : Int) ∧ rd (l ++ [x]) (l.length : Int) = x := by
  have e : ((l ++ [x]).length : Int) = (l.length : Int) + 1 := by rw [List.length_append]; simp
  constructor
  · rw [e, w64 (by omega) (by omega)]; omega
  · rw [rd_at _ l.length (by rw [List.length_append]; simp)]; simp
/-- one round of the simple method -/
theorem steps_rd (k : Nat) (out : List Int) (u rest : Int) (hu : 1 ≤ u ∧ u ≤ 100000) (hr : 1 ≤ rest ∧ rest ≤ 1000000000000) (ho : out.length < 17592186044416) :
    profile_Steps.l0 (k+1) out u rest = profile_Steps.l0 k (out ++ [(rest - 1) % u + 1]) u (rest - ((rest - 1) % u + 1)) := by
  have b1 := Int.emod_nonneg (rest - 1) (show u ≠ 0 by omega)
  have b2 := Int.emod_lt_of_pos (rest - 1) (show 0 < u by omega)
  obtain ⟨e1, e2⟩ := rd_last out ((rest - 1) % u + 1) ho
  have e3 : ((out ++ [(rest - 1) % u + 1]).length : Int) = (out.length : Int) + 1 := by rw [List.length_append]; simp
  rw [profile_Steps.l0, if_pos (by omega), if_neg (by omega), if_pos ho, w64 (x := rest - 1) (by omega) (by omega), Int.tmod_eq_emod_of_nonneg (by omega), w64 (x := (rest - 1) % u + 1) (by omega) (by omega)]
  simp only [Option.bind_some]
  rw [e1, if_pos (by omega), if_pos (by omega), e2, w64 (by omega) (by omega)]
theorem steps_rep (u : Int) (hu : 1 ≤ u ∧ u ≤ 100000) (m : Nat) : ∀ (k : Nat) (out : List Int), (out.length : Int) + m ≤ 1000000 → m < k → u * m ≤ 1000000000000 → profile_Steps.l0 k out u (u * m) = some (out ++ List.replicate m u, 0) := by
  induction m with
  | zero =>
    intro k out h1 h2 _
    obtain ⟨k, rfl⟩ : ∃ m, k = m + 1 := ⟨k - 1, by omega⟩
    rw [profile_Steps.l0, if_neg (by simp)]; simp
  | succ m ih =>
    intro k out h1 h2 h3
    obtain ⟨k, rfl⟩ : ∃ m, k = m + 1 := ⟨k - 1, by omega⟩
    have e : u * ((m + 1 : Nat) : Int) = u * m + u := by rw [Int.natCast_add, Int.mul_add]; simp
    have p : 0 ≤ u * (m : Int) := Int.mul_nonneg (by omega) (by omega)
    rw [e] at h3
    have em : (u * (m : Int) + u - 1) % u = u - 1 := by
      rw [show u * (m : Int) + u - 1 = (u - 1) + u * m by omega, Int.add_mul_emod_self_left, Int.emod_eq_of_lt (by omega) (by omega)]
    rw [e, steps_rd k out u _ hu (by omega) (by omega), em, show u * (m : Int) + u - (u - 1 + 1) = u * m by omega, show u - 1 + 1 = u by omega, ih k (out ++ [u]) (by rw [List.length_append]; simp; omega) (by omega) (by omega)]
    rw [List.append_assoc, List.singleton_append, ← List.replicate_succ]
theorem smo_rep {S A J u : Int} (h : 1 ≤ u ∧ u ≤ S ∧ u ≤ A ∧ 2 * u ≤ J) (m : Nat) : ∀ a : Int, 0 ≤ a → a ≤ u → smo S A J u a (List.replicate m u) = true := by
  induction m with
  | zero =>
    intro a h1 h2
    have o1 : okStep S A J u a 0 := by unfold okStep; omega
    have o2 : okStep S A J 0 (0-u) 0 := by unfold okStep; omega
    simp only [List.replicate_zero, smo, o1, o2, decide_true, Bool.and_self]
  | succ m ih =>
    intro a h1 h2
    have o1 : okStep S A J u a u := by unfold okStep; omega
    rw [List.replicate_succ]
    simp only [smo, o1, decide_true, Bool.true_and, Int.sub_self]
    exact ih 0 (by omega) (by omega)
theorem smo_simple {S A J u x : Int} (h : 1 ≤ u ∧ u ≤ S ∧ u ≤ A ∧ 2 * u ≤ J) (hx : 1 ≤ x ∧ x ≤ u) (m : Nat) : smo S A J 0 0 (x :: List.replicate m u) = true := by
  have o0 : okStep S A J 0 0 x := by unfold okStep; omega
  simp only [smo, o0, decide_true, Bool.true_and, Int.sub_zero]
  cases m with
  | zero =>
    have o1 : okStep S A J x x 0 := by unfold okStep; omega
    have o2 : okStep S A J 0 (0-x) 0 := by unfold okStep; omega
    simp only [List.replicate_zero, smo, o1, o2, decide_true, Bool.and_self]
  | succ m =>
    have o1 : okStep S A J x x u := by unfold okStep; omega
    rw [List.replicate_succ]
    simp only [smo, o1, decide_true, Bool.true_and]
    exact smo_rep h m (u - x) (by omega) (by omega)
theorem sum_rep (u : Int) (m : Nat) : (List.replicate m u).sum = u * m := by
  induction m with
  | zero => simp
  | succ m ih => rw [List.replicate_succ, List.sum_cons, ih, Int.natCast_add, Int.mul_add]; simp; omega
/-- what the simple method tells -/
theorem simple_f {S A J len : Int} (h : okL S A J) (hl : 0 ≤ len ∧ len ≤ 1000000000000) (hn : (len + simU S A J - 1) / simU S A J ≤ 5000) :
    ∃ (L : List Int) (K : Nat), (∀ k, K ≤ k → profile_Steps.l0 k [] (simU S A J) len = some (L, 0)) ∧ L.sum = len ∧ (∀ x ∈ L, 0 < x) ∧ (L.length : Int) ≤ (len + simU S A J - 1) / simU S A J ∧ smo S A J 0 0 L = true := by
  have u := simU_ok h
  obtain ⟨w, hw⟩ : ∃ w, simU S A J = w := ⟨_, rfl⟩
  rw [hw] at u hn ⊢
  clear hw
  have h' := h
  unfold okL at h'
  by_cases c : len = 0
  · subst c
    have o0 : okStep S A J 0 0 0 := by unfold okStep; omega
    refine ⟨[], 1, fun k hk => ?_, by simp, by simp, ?_, by simp only [smo, o0, Int.sub_self, decide_true, Bool.and_self]⟩
    · obtain ⟨k, rfl⟩ : ∃ m, k = m + 1 := ⟨k - 1, by omega⟩
      rw [profile_Steps.l0, if_neg (by omega)]
    · have := Int.ediv_nonneg (show 0 ≤ 0 + w - 1 by omega) (show 0 ≤ w by omega)
      simpa using this
  · have b1 := Int.emod_nonneg (len - 1) (show w ≠ 0 by omega)
    have b2 := Int.emod_lt_of_pos (len - 1) (show 0 < w by omega)
    have b3 := Int.mul_ediv_add_emod (len - 1) w
    have b4 := Int.ediv_nonneg (show 0 ≤ len - 1 by omega) (show 0 ≤ w by omega)
    have b5 : (len + w - 1) / w = (len - 1) / w + 1 := by
      rw [show len + w - 1 = (len - 1) + w * 1 by omega, Int.add_mul_ediv_left _ _ (by omega)]
    obtain ⟨q, hq⟩ : ∃ q : Nat, (len - 1) / w = q := ⟨((len - 1) / w).toNat, by omega⟩
    rw [hq] at b3 b4 b5
    rw [b5] at hn ⊢
    obtain ⟨x, hx⟩ : ∃ x, (len - 1) % w + 1 = x := ⟨_, rfl⟩
    have ex : len - x = w * q := by omega
    refine ⟨x :: List.replicate q w, q + 2, fun k hk => ?_, ?_, ?_, ?_, smo_simple u (by omega) q⟩
    · obtain ⟨k, rfl⟩ : ∃ m, k = m + 1 := ⟨k - 1, by omega⟩
      rw [steps_rd k [] w len (by omega) (by omega) (by simp), hx, ex, steps_rep w (by omega) q k _ (by simp; omega) (by omega) (by omega)]
      rfl
    · rw [List.sum_cons, sum_rep]; omega
    · intro y hy
      rcases List.mem_cons.1 hy with rfl | hy
      · omega
      · have := List.eq_of_mem_replicate hy; omega
    · rw [List.length_cons, List.length_replicate]; omega
/-- what Steps tells, in few ticks -/
theorem steps_f {S A J len : Int} (h : okL S A J) (hl : 0 ≤ len ∧ len ≤ 1000000000000) (hn : (len + simU S A J - 1) / simU S A J ≤ 3000) :
    ∃ (L : List Int) (K : Nat), (∀ k, K ≤ k → profile_Steps.f k len S A J = some (L, 0)) ∧ L.sum = len ∧ (∀ x ∈ L, 0 < x) ∧ (L.length : Int) ≤ (len + simU S A J - 1) / simU S A J ∧ smo S A J 0 0 L = true := by
  have u := simU_ok h
  have n0 := Int.ediv_nonneg (show 0 ≤ len + simU S A J - 1 by omega) (show 0 ≤ simU S A J by omega)
  have et : ∀ k, 1 ≤ k → profile_Ticks.f k len S A J = some ((len + simU S A J - 1) / simU S A J, 0) := by
    intro k hk
    rw [ticks_f len S A J k hk]
    unfold ticksS
    rw [if_pos ⟨h, hl.1⟩, if_neg (by omega)]
  obtain ⟨L, ok, K, p1, p2⟩ := fast_f (len := len) h (n := (len + simU S A J - 1) / simU S A J) ⟨n0, by omega⟩ hl
  cases ok with
  | true =>
    obtain ⟨q1, q2, q3, q4⟩ := p2 rfl
    refine ⟨L, K + 1, fun k hk => ?_, q1, q2, q3, q4⟩
    unfold profile_Steps.f
    rw [et k (by omega)]
    simp only [Option.bind_some]
    rw [if_pos trivial, if_neg (by omega), p1 k (by omega)]
    simp only [Option.bind_some, if_true]
  | false =>
    obtain ⟨L', K', r1, r2, r3, r4, r5⟩ := simple_f h hl (by omega)
    refine ⟨L', K + K' + 1, fun k hk => ?_, r2, r3, r4, r5⟩
    unfold profile_Steps.f
    rw [et k (by omega)]
    simp only [Option.bind_some]
    rw [if_pos trivial, if_neg (by omega), p1 k (by omega)]
    simp only [Option.bind_some]
    rw [if_neg (by decide)]
    unfold profile_Limits_simple.f
    simp only [Option.bind_some]
    rw [show mn (mn S A) (wrap64 (Int.tdiv J 2)) = simU S A J from rfl]
    exact r1 k (by omega)
theorem smo_le {S A J : Int} (L : List Int) : ∀ v a, smo S A J v a L = true → ∀ x ∈ L, 0 ≤ x ∧ x ≤ S := by
  induction L with
  | nil => intro v a _ x hx; simp at hx
  | cons y L ih =>
    intro v a hs x hx
    simp only [smo, Bool.and_eq_true, decide_eq_true_eq] at hs
    rcases List.mem_cons.1 hx with rfl | hx
    · exact ⟨hs.1.1, hs.1.2.1⟩
    · exact ih _ _ hs.2 x hx
end Go.Proofs.Ytmaegpblaihepaa.Pure
