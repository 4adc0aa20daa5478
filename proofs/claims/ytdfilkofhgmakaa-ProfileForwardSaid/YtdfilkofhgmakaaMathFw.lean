/- The law ProfileForward, told of numbers alone. -/
import Derived.Test.YtdfilkofhgmakaaMathP
import Derived.Test.YtdfilkofhgmakaaFx38
import Derived.Test.YtdfilkofhgmakaaFx39
import Derived.OpenShut
namespace Go.Proofs.Ytdfilkofhgmakaa.Pure
open Go.RowKit Go.Proofs.Ytdfilkofhgmakaa.F Go.Proofs.YtdfilkofhgmakaaW.PrintWords Go.Proofs.YtdfilkofhgmakaaW.PrintLast Go.Proofs.YtdfilkofhgmakaaW.PrintMore
set_option linter.unusedVariables false
set_option linter.unusedSimpArgs false
theorem mx_eq (a b : Int) : a ≤ mx a b ∧ b ≤ mx a b ∧ (mx a b = a ∨ mx a b = b) := by
  unfold mx; split <;> omega
theorem mn_eq (a b : Int) : mn a b ≤ a ∧ mn a b ≤ b ∧ (mn a b = a ∨ mn a b = b) := by
  unfold mn; split <;> omega

theorem at_zero {f t len : Int} (h : 1 ≤ len) : Hand.at_ f t 0 len = f := by
  unfold Hand.at_
  rw [Int.mul_zero, Int.zero_add, Int.ediv_eq_zero_of_lt (by omega) (by omega), Int.add_zero]
theorem at_len {f t len : Int} (h : 1 ≤ len) : Hand.at_ f t len len = t := by
  unfold Hand.at_
  have e : 2*(t-f)*len + len = len + (t-f)*(2*len) := by grind
  rw [e, Int.add_mul_ediv_right _ _ (by omega), Int.ediv_eq_zero_of_lt (by omega) (by omega)]
  omega
theorem at_up {f t p q len : Int} (h : 1 ≤ len) (hpq : p ≤ q) (hft : f ≤ t) : Hand.at_ f t p len ≤ Hand.at_ f t q len := by
  unfold Hand.at_
  have m : 2*(t-f)*p ≤ 2*(t-f)*q := Int.mul_le_mul_of_nonneg_left hpq (by omega)
  have := Int.ediv_le_ediv (show 0 < 2*len by omega) (show 2*(t-f)*p + len ≤ 2*(t-f)*q + len by omega)
  omega
theorem at_down {f t p q len : Int} (h : 1 ≤ len) (hpq : p ≤ q) (hft : t ≤ f) : Hand.at_ f t q len ≤ Hand.at_ f t p len := by
  unfold Hand.at_
  have m : 2*(f-t)*p ≤ 2*(f-t)*q := Int.mul_le_mul_of_nonneg_left hpq (by omega)
  have e1 : 2*(t-f)*p = -(2*(f-t)*p) := by grind
  have e2 : 2*(t-f)*q = -(2*(f-t)*q) := by grind
  have := Int.ediv_le_ediv (show 0 < 2*len by omega) (show 2*(t-f)*q + len ≤ 2*(t-f)*p + len by omega)
  omega
theorem betw_f {a b c : Int} (h : (a ≤ b ∧ b ≤ c) ∨ (c ≤ b ∧ b ≤ a)) : swarflaw49_between.f a b c = some true := by
  unfold swarflaw49_between.f
  have m := mx_eq a c
  have n := mn_eq a c
  rw [if_pos (by omega)]
  congr 1; exact decide_eq_true (by omega)
theorem fwd {f t p q len : Int} (h : 1 ≤ len) (h0 : 0 ≤ p) (hpq : p ≤ q) (hq : q ≤ len) :
    swarflaw49_between.f f (Hand.at_ f t p len) (Hand.at_ f t q len) = some true ∧ swarflaw49_between.f (Hand.at_ f t p len) (Hand.at_ f t q len) t = some true := by
  have z := at_zero (f := f) (t := t) h
  have l := at_len (f := f) (t := t) h
  rcases Int.le_total f t with c | c
  · have a := at_up (f := f) (t := t) h h0 c
    have b := at_up (f := f) (t := t) h hpq c
    have d := at_up (f := f) (t := t) h hq c
    rw [z] at a; rw [l] at d
    exact ⟨betw_f (.inl ⟨a, b⟩), betw_f (.inl ⟨b, d⟩)⟩
  · have a := at_down (f := f) (t := t) h h0 c
    have b := at_down (f := f) (t := t) h hpq c
    have d := at_down (f := f) (t := t) h hq c
    rw [z] at a; rw [l] at d
    exact ⟨betw_f (.inr ⟨b, a⟩), betw_f (.inr ⟨d, b⟩)⟩

theorem posS_ok {ax ay az bx by_ bz part len x y z e : Int} (h : Hand.posS ax ay az bx by_ bz part len = some (x, y, z, e)) (he : e = 0) :
    (1 ≤ len ∧ 0 ≤ part ∧ part ≤ len) ∧ (Hand.inW len ∧ Hand.inW ax ∧ Hand.inW ay ∧ Hand.inW az ∧ Hand.inW bx ∧ Hand.inW by_ ∧ Hand.inW bz) ∧
    x = Hand.at_ ax bx part len ∧ y = Hand.at_ ay by_ part len ∧ z = Hand.at_ az bz part len := by
  unfold Hand.posS at h
  by_cases c : len < 1 ∨ part < 0 ∨ len < part
  · rw [if_pos c] at h
    simp only [Option.some.injEq, Prod.mk.injEq] at h
    omega
  · rw [if_neg c] at h
    by_cases d : Hand.inW len ∧ Hand.inW ax ∧ Hand.inW ay ∧ Hand.inW az ∧ Hand.inW bx ∧ Hand.inW by_ ∧ Hand.inW bz
    · rw [if_pos d] at h
      simp only [Option.some.injEq, Prod.mk.injEq] at h
      exact ⟨by omega, d, h.1.symm, h.2.1.symm, h.2.2.1.symm⟩
    · rw [if_neg d] at h
      simp only [Option.some.injEq, Prod.mk.injEq] at h
      omega

theorem law_forward (ax ay az bx by_ bz n0 n1 n2 : Int) : ∃ k, swarflaw49_ProfileForward.f k ax ay az bx by_ bz n0 n1 n2 = some true := by
  refine ⟨200, ?_⟩
  obtain ⟨px, py, pz, pe, hp⟩ := posS_some ax ay az bx by_ bz (mn n0 n1) n2
  obtain ⟨qx, qy, qz, qe, hq⟩ := posS_some ax ay az bx by_ bz (mx n0 n1) n2
  unfold swarflaw49_ProfileForward.f profile_Position.f
  rw [awake_at 200 (by omega), hp, hq]
  simp only [Option.bind_some, if_true]
  by_cases c1 : pe = 0
  · rw [if_pos c1, swarflaw49_ProfileForward.j0]
    by_cases c2 : qe = 0
    · obtain ⟨⟨l1, p0, p1⟩, ⟨w0, w1, w2, w3, w4, w5, w6⟩, rfl, rfl, rfl⟩ := posS_ok hp c1
      obtain ⟨⟨-, q0, q1⟩, -, rfl, rfl, rfl⟩ := posS_ok hq c2
      have pq : mn n0 n1 ≤ mx n0 n1 := by have m := mx_eq n0 n1; have n := mn_eq n0 n1; omega
      rw [if_neg (by simp [c2])]
      unfold profile_Position.f
      have s0 : Hand.posS ax ay az bx by_ bz 0 n2 = some (ax, ay, az, 0) := by
        unfold Hand.posS
        rw [if_neg (by omega), if_pos ⟨w0, w1, w2, w3, w4, w5, w6⟩, at_zero l1, at_zero l1, at_zero l1]
      have s1 : Hand.posS ax ay az bx by_ bz n2 n2 = some (bx, by_, bz, 0) := by
        unfold Hand.posS
        rw [if_neg (by omega), if_pos ⟨w0, w1, w2, w3, w4, w5, w6⟩, at_len l1, at_len l1, at_len l1]
      rw [s0, s1]
      simp only [Option.bind_some, if_true]
      rw [if_neg (by simp), swarflaw49_ProfileForward.j1, if_neg (by simp)]
      obtain ⟨f1, f2⟩ := fwd (f := ax) (t := bx) l1 p0 pq q1
      obtain ⟨f3, f4⟩ := fwd (f := ay) (t := by_) l1 p0 pq q1
      obtain ⟨f5, f6⟩ := fwd (f := az) (t := bz) l1 p0 pq q1
      simp only [f1, f2, f3, f4, f5, f6, Option.bind_some, if_true]
    · rw [if_pos (by simpa using c2)]
  · rw [if_neg c1, swarflaw49_ProfileForward.j0, if_pos rfl]


end Go.Proofs.Ytdfilkofhgmakaa.Pure
