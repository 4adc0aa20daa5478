/- The closure of Position, and the rounding that it calls, by contracts: what they tell, for numbers within bounds. -/
import Derived.Test.YtdfilkofhgmakaaProg
import Derived.WalkKit
import Derived.KernelRfl
import Derived.RowKit
import Derived.IntWalk
import Derived.Lib.Hide
namespace Go.Proofs.Ytdfilkofhgmakaa.Hand
open Go.RowKit
theorem w64 {x : Int} (h1 : -9223372036854775808 ≤ x) (h2 : x ≤ 9223372036854775807) : wrap64 x = x := by
  unfold wrap64; omega
theorem floor_eq (a b : Int) (hb : 0 < b) : a / b = (if Int.tmod a b < 0 then Int.tdiv a b - 1 else Int.tdiv a b) := by
  rw [Int.tdiv_eq_ediv, Int.tmod_eq_emod]
  have h1 := Int.emod_nonneg a (show b ≠ 0 by omega)
  have h2 := Int.emod_lt_of_pos a hb
  have hs : b.sign = 1 := Int.sign_eq_one_of_pos hb
  have hn : (b.natAbs : Int) = b := by omega
  by_cases c : 0 ≤ a ∨ b ∣ a
  · rw [if_pos c, if_pos c, if_neg (by omega)]; omega
  · rw [if_neg c, if_neg c, hs, if_pos (by omega)]; omega
theorem div_b {a b : Int} (hb : 0 < b) (h1 : -1000000000000000000 ≤ a) (h2 : a ≤ 1000000000000000000) : -1000000000000000000 ≤ a / b ∧ a / b ≤ 1000000000000000000 := by
  constructor
  · rw [Int.le_ediv_iff_mul_le hb]
    have : 1 ≤ b := by omega
    have := Int.mul_le_mul_of_nonneg_left this (show (0:Int) ≤ 1000000000000000000 by omega)
    omega
  · by_cases c : 0 ≤ a
    · have := Int.ediv_le_self b c; omega
    · have := Int.ediv_neg_of_neg_of_pos (show a < 0 by omega) hb; omega
theorem ret_int {k : IntKind} {a b : Int} (h : a = b) : Ending.returned (.int k a) = .returned (.int k b) := by rw [h]
set_option maxHeartbeats 400000 in
theorem floor_any (a b : Int) (w : World) (hb : 0 < b) (h1 : -1000000000000000000 ≤ a) (h2 : a ≤ 1000000000000000000) :
    Calls Try.prog 39 #[.int .i64 a, .int .i64 b] w fun e w' => e = .returned (.int .i64 (a / b)) ∧ w = w' := by
  have e := floor_eq a b hb
  have q := div_b hb h1 h2
  have hb0 : (b == 0) = false := by simp; omega
  by_cases c : Int.tmod a b < 0
  · rw [if_pos c] at e
    have t1 : -2000000000000000000 ≤ Int.tdiv a b := by omega
    have t2 : Int.tdiv a b ≤ 2000000000000000000 := by omega
    have H := Lib.hid e; clear e
    go_enter Try.func39, Try.ntmps39
    go_wp2
    go_ret
    exact ⟨ret_int H.out.symm, rfl⟩
  · rw [if_neg c] at e
    have t1 : -2000000000000000000 ≤ Int.tdiv a b := by omega
    have t2 : Int.tdiv a b ≤ 2000000000000000000 := by omega
    have H := Lib.hid e; clear e
    go_enter Try.func39, Try.ntmps39
    go_wp2
    go_ret
    exact ⟨ret_int H.out.symm, rfl⟩
theorem mulb2 {a b A B : Int} (h1 : -A ≤ a) (h2 : a ≤ A) (h3 : 0 ≤ b) (h4 : b ≤ B) (hA : 0 ≤ A) : -(A*B) ≤ a*b ∧ a*b ≤ A*B := by
  have p1 : A*b ≤ A*B := Int.mul_le_mul_of_nonneg_left h4 hA
  have p2 : a*b ≤ A*b := Int.mul_le_mul_of_nonneg_right h2 h3
  have p3 : (-A)*b ≤ a*b := Int.mul_le_mul_of_nonneg_right h1 h3
  have p4 : (-A)*b = -(A*b) := Int.neg_mul A b
  omega
def at_ (f t part len : Int) : Int := f + (2*(t-f)*part+len)/(2*len)
set_option maxHeartbeats 400000 in
theorem at_any (f t part len : Int) (b1 b2 : Nat) (w : World) (hp : w.cell? ⟨b1, 0, none⟩ = some (.int .i64 part)) (hl : w.cell? ⟨b2, 0, none⟩ = some (.int .i64 len))
    (hf : -40000000 ≤ f ∧ f ≤ 40000000) (ht : -40000000 ≤ t ∧ t ≤ 40000000) (h0 : 0 ≤ part) (h1 : part ≤ len) (h2 : 1 ≤ len) (h3 : len ≤ 40000000) :
    Calls Try.prog 38 #[.int .i64 f, .int .i64 t, .pointer (some ⟨b1, 0, none⟩), .pointer (some ⟨b2, 0, none⟩)] w fun e w' => e = .returned (.int .i64 (at_ f t part len)) ∧ w = w' := by
  have m := mulb2 (a := 2*(t-f)) (b := part) (A := 160000000) (B := 40000000) (by omega) (by omega) (by omega) (by omega) (by omega)
  have q : -1000000000000000000 ≤ (2*(t-f)*part+len)/(2*len) ∧ (2*(t-f)*part+len)/(2*len) ≤ 1000000000000000000 := div_b (by omega) (by omega) (by omega)
  obtain ⟨hf1, hf2⟩ := hf
  obtain ⟨ht1, ht2⟩ := ht
  obtain ⟨m1, m2⟩ := m
  obtain ⟨q1, q2⟩ := q
  go_enter Try.func38, Try.ntmps38
  go_wp2_with (go_at_call 39; refine (floor_any _ _ _ (by omega) (by omega) (by omega)).mono ?_; rintro e w' ⟨rfl, rfl⟩)
  go_ret
  exact ⟨rfl, rfl⟩
end Go.Proofs.Ytdfilkofhgmakaa.Hand
