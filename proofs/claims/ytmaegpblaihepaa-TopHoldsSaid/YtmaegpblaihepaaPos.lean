/- The closure of Position, and the rounding that it calls, by contracts: what they tell, for numbers within bounds. Position by a contract: for every two positions, every part and every length. -/
import Derived.Test.YtmaegpblaihepaaProg
import Derived.WalkKit
import Derived.KernelRfl
import Derived.RowKit
import Derived.IntWalk
import Derived.Lib.Hide
import Derived.Below
import Derived.LoopTactic
import Derived.LoopN
import Derived.Deep.QuietTactic
import Derived.BigQuiet
import Derived.StillTailTactics
namespace Go.Proofs.Ytmaegpblaihepaa.Hand
open Go.RowKit
theorem w64 {x : Int} (h1 : -9223372036854775808 ≤ x) (h2 : x ≤ 9223372036854775807) : wrap64 x = x := by
  unfold wrap64; omega
theorem floor_eq (a b : Int) (hb : 0 < b) : a / b = (if Int.tmod a b < 0 then Int.tdiv a b - 1 else Int.tdiv a b) := by
  rw [Int.tdiv_eq_ediv, Int.tmod_eq_emod]
  have h1 := Int.emod_nonneg a (show b ≠ 0 by omega)
  have h2 := Int.emod_lt_of_pos a hb
  have hs : b.sign = 1 := Int.sign_eq_one_of_pos hb
  have hn : (b.natAbs : Int) = b := by omega
  by_cases c : 0 ≤ a ∨ b ∣ a
  · rw [if_pos c, if_pos c, if_neg (by omega)]; omega
  · rw [if_neg c, if_neg c, hs, if_pos (by omega)]; omega
theorem div_b {a b : Int} (hb : 0 < b) (h1 : -1000000000000000000 ≤ a) (h2 : a ≤ 1000000000000000000) : -1000000000000000000 ≤ a / b ∧ a / b ≤ 1000000000000000000 := by
  constructor
  · rw [Int.le_ediv_iff_mul_le hb]
    have : 1 ≤ b := by omega
    have := Int.mul_le_mul_of_nonneg_left this (show (0:Int) ≤ 1000000000000000000 by omega)
    omega
  · by_cases c : 0 ≤ a
    · have := Int.ediv_le_self b c; omega
    · have := Int.ediv_neg_of_neg_of_pos (show a < 0 by omega) hb; omega
theorem ret_int {k : IntKind} {a b : Int} (h : a = b) : Ending.returned (.int k a) = .returned (.int k b) := by rw [h]
set_option maxHeartbeats 400000 in
theorem floor_any (a b : Int) (w : World) (hb : 0 < b) (h1 : -1000000000000000000 ≤ a) (h2 : a ≤ 1000000000000000000) :
    Calls Try.prog 45 #[.int .i64 a, .int .i64 b] w fun e w' => e = .returned (.int .i64 (a / b)) ∧ w = w' := by
  have e := floor_eq a b hb
  have q := div_b hb h1 h2
  have hb0 : (b == 0) = false := by simp; omega
  by_cases c : Int.tmod a b < 0
  · rw [if_pos c] at e
    have t1 : -2000000000000000000 ≤ Int.tdiv a b := by omega
    have t2 : Int.tdiv a b ≤ 2000000000000000000 := by omega
    have H := Lib.hid e; clear e
    go_enter Try.func45, Try.ntmps45
    go_wp2
    go_ret
    exact ⟨ret_int H.out.symm, rfl⟩
  · rw [if_neg c] at e
    have t1 : -2000000000000000000 ≤ Int.tdiv a b := by omega
    have t2 : Int.tdiv a b ≤ 2000000000000000000 := by omega
    have H := Lib.hid e; clear e
    go_enter Try.func45, Try.ntmps45
    go_wp2
    go_ret
    exact ⟨ret_int H.out.symm, rfl⟩
theorem mulb2 {a b A B : Int} (h1 : -A ≤ a) (h2 : a ≤ A) (h3 : 0 ≤ b) (h4 : b ≤ B) (hA : 0 ≤ A) : -(A*B) ≤ a*b ∧ a*b ≤ A*B := by
  have p1 : A*b ≤ A*B := Int.mul_le_mul_of_nonneg_left h4 hA
  have p2 : a*b ≤ A*b := Int.mul_le_mul_of_nonneg_right h2 h3
  have p3 : (-A)*b ≤ a*b := Int.mul_le_mul_of_nonneg_right h1 h3
  have p4 : (-A)*b = -(A*b) := Int.neg_mul A b
  omega
def at_ (f t part len : Int) : Int := f + (2*(t-f)*part+len)/(2*len)
set_option maxHeartbeats 400000 in
theorem at_any (f t part len : Int) (b1 b2 : Nat) (w : World) (hp : w.cell? ⟨b1, 0, none⟩ = some (.int .i64 part)) (hl : w.cell? ⟨b2, 0, none⟩ = some (.int .i64 len))
    (hf : -40000000 ≤ f ∧ f ≤ 40000000) (ht : -40000000 ≤ t ∧ t ≤ 40000000) (h0 : 0 ≤ part) (h1 : part ≤ len) (h2 : 1 ≤ len) (h3 : len ≤ 40000000) :
    Calls Try.prog 44 #[.int .i64 f, .int .i64 t, .pointer (some ⟨b1, 0, none⟩), .pointer (some ⟨b2, 0, none⟩)] w fun e w' => e = .returned (.int .i64 (at_ f t part len)) ∧ w = w' := by
  have m := mulb2 (a := 2*(t-f)) (b := part) (A := 160000000) (B := 40000000) (by omega) (by omega) (by omega) (by omega) (by omega)
  have q : -1000000000000000000 ≤ (2*(t-f)*part+len)/(2*len) ∧ (2*(t-f)*part+len)/(2*len) ≤ 1000000000000000000 := div_b (by omega) (by omega) (by omega)
  obtain ⟨hf1, hf2⟩ := hf
  obtain ⟨ht1, ht2⟩ := ht
  obtain ⟨m1, m2⟩ := m
  obtain ⟨q1, q2⟩ := q
  go_enter Try.func44, Try.ntmps44
  go_wp2_with (go_at_call 45; refine (floor_any _ _ _ (by omega) (by omega) (by omega)).mono ?_; rintro e w' ⟨rfl, rfl⟩)
  go_ret
  exact ⟨rfl, rfl⟩
end Go.Proofs.Ytmaegpblaihepaa.Hand
namespace Go.Proofs.Ytmaegpblaihepaa.Hand
open Go.RowKit
theorem info2 : (Try.prog.info? 2).map (fun i => (i.zero, i.size, i.bytes)) = some (some (.int .i64 0), 1, 8) := by kernel_rfl
def inW (x : Int) : Prop := -40000000 ≤ x ∧ x ≤ 40000000
instance (x : Int) : Decidable (inW x) := by unfold inW; infer_instance
set_option maxHeartbeats 400000 in
theorem within_yes (n : Int) (w : World) (h : inW n) : Calls Try.prog 43 #[.int .i64 n, .int .i64 (-40000000), .int .i64 40000000] w fun e w' => e = .returned (.bool true) ∧ w = w' := by
  obtain ⟨h1, h2⟩ := h
  go_enter Try.func43, Try.ntmps43
  go_wp2
  go_ret
  exact ⟨rfl, rfl⟩
set_option maxHeartbeats 400000 in
theorem within_no (n : Int) (w : World) (h : ¬ inW n) : Calls Try.prog 43 #[.int .i64 n, .int .i64 (-40000000), .int .i64 40000000] w fun e w' => e = .returned (.bool false) ∧ w = w' := by
  unfold inW at h
  by_cases c : -40000000 ≤ n
  · have hd : decide (n ≤ 40000000) = false := decide_eq_false (by omega)
    clear h
    go_enter Try.func43, Try.ntmps43
    go_wp2
    go_ret
    exact ⟨rfl, rfl⟩
  · have c2 : n < -40000000 := by omega
    clear h c
    go_enter Try.func43, Try.ntmps43
    go_wp2
    go_ret
    exact ⟨rfl, rfl⟩
theorem below5 {w : World} (a b c d e : Obj) : Below w.heap.size w (((((w.alloc a).alloc b).alloc c).alloc d).alloc e) :=
  ((((((Below.refl _ _).alloc (Nat.le_refl _) _).alloc (by simp) _).alloc (by simp; omega) _).alloc (by simp; omega) _).alloc (by simp; omega) _)
abbrev posArgs (ax ay az bx by_ bz part len : Int) : Array Value := #[.agg #[.int .i64 ax, .int .i64 ay, .int .i64 az], .agg #[.int .i64 bx, .int .i64 by_, .int .i64 bz], .int .i64 part, .int .i64 len]
abbrev posRet (w : World) (x y z r : Int) (e : Ending) (w' : World) : Prop := e = .returned (.tuple #[.agg #[.int .i64 x, .int .i64 y, .int .i64 z], .int .i64 r]) ∧ Below w.heap.size w w'
set_option maxHeartbeats 1000000 in
theorem pos_bad1 (ax ay az bx by_ bz part len : Int) (w : World) (h : len < 1) :
    Calls Try.prog 31 #[.agg #[.int .i64 ax, .int .i64 ay, .int .i64 az], .agg #[.int .i64 bx, .int .i64 by_, .int .i64 bz], .int .i64 part, .int .i64 len] w (posRet w 0 0 0 1) := by
  go_enter Try.func31, Try.ntmps31
  go_wp2
  exact bodyPost_ret (v := .tuple #[.agg #[.int .i64 0, .int .i64 0, .int .i64 0], .int .i64 1]) (by simp [results, Try.results31, go_sem]) rfl ⟨rfl, below5 _ _ _ _ _⟩
set_option maxHeartbeats 1000000 in
theorem pos_bad2 (ax ay az bx by_ bz part len : Int) (w : World) (h1 : 1 ≤ len) (h : part < 0) :
    Calls Try.prog 31 #[.agg #[.int .i64 ax, .int .i64 ay, .int .i64 az], .agg #[.int .i64 bx, .int .i64 by_, .int .i64 bz], .int .i64 part, .int .i64 len] w (posRet w 0 0 0 1) := by
  go_enter Try.func31, Try.ntmps31
  go_wp2
  exact bodyPost_ret (v := .tuple #[.agg #[.int .i64 0, .int .i64 0, .int .i64 0], .int .i64 1]) (by simp [results, Try.results31, go_sem]) rfl ⟨rfl, below5 _ _ _ _ _⟩
set_option maxHeartbeats 1000000 in
theorem pos_bad3 (ax ay az bx by_ bz part len : Int) (w : World) (h1 : 1 ≤ len) (h2 : 0 ≤ part) (h : len < part) :
    Calls Try.prog 31 #[.agg #[.int .i64 ax, .int .i64 ay, .int .i64 az], .agg #[.int .i64 bx, .int .i64 by_, .int .i64 bz], .int .i64 part, .int .i64 len] w (posRet w 0 0 0 1) := by
  go_enter Try.func31, Try.ntmps31
  go_wp2
  exact bodyPost_ret (v := .tuple #[.agg #[.int .i64 0, .int .i64 0, .int .i64 0], .int .i64 1]) (by simp [results, Try.results31, go_sem]) rfl ⟨rfl, below5 _ _ _ _ _⟩
theorem below6 {w : World} (a b c d e f : Obj) : Below w.heap.size w ((((((w.alloc a).alloc b).alloc c).alloc d).alloc e).alloc f) :=
  (below5 a b c d e).alloc (by simp; omega) _
set_option maxHeartbeats 4000000 in
theorem pos_far0 (ax ay az bx by_ bz part len : Int) (w : World) (h1 : 1 ≤ len) (h2 : 0 ≤ part) (h3 : part ≤ len)  (m0 : ¬ inW len) :
    Calls Try.prog 31 #[.agg #[.int .i64 ax, .int .i64 ay, .int .i64 az], .agg #[.int .i64 bx, .int .i64 by_, .int .i64 bz], .int .i64 part, .int .i64 len] w (posRet w 0 0 0 11) := by
  have n0 := Lib.hid m0; clear m0
  go_enter Try.func31, Try.ntmps31
  go_wp2
  refine wp_loop_rounds 1 ?_
  rw [rounds_succ]
  go_wp2_with (go_at_call 43; refine (within_no _ _ n0.out).mono ?_; rintro e w' ⟨rfl, rfl⟩)
  exact bodyPost_ret (v := .tuple #[.agg #[.int .i64 0, .int .i64 0, .int .i64 0], .int .i64 11]) (by simp [results, Try.results31, go_sem]) rfl ⟨rfl, below6 _ _ _ _ _ _⟩
set_option maxHeartbeats 4000000 in
theorem pos_far1 (ax ay az bx by_ bz part len : Int) (w : World) (h1 : 1 ≤ len) (h2 : 0 ≤ part) (h3 : part ≤ len) (m0 : inW len) (m1 : ¬ inW ax) :
    Calls Try.prog 31 #[.agg #[.int .i64 ax, .int .i64 ay, .int .i64 az], .agg #[.int .i64 bx, .int .i64 by_, .int .i64 bz], .int .i64 part, .int .i64 len] w (posRet w 0 0 0 11) := by
  have n0 := Lib.hid m0; clear m0
  have n1 := Lib.hid m1; clear m1
  go_enter Try.func31, Try.ntmps31
  go_wp2
  refine wp_loop_rounds 2 ?_
  rw [rounds_succ]
  go_wp2_with (go_at_call 43; refine (within_yes _ _ n0.out).mono ?_; rintro e w' ⟨rfl, rfl⟩)
  rw [rounds_succ]
  go_wp2_with (go_at_call 43; refine (within_no _ _ n1.out).mono ?_; rintro e w' ⟨rfl, rfl⟩)
  exact bodyPost_ret (v := .tuple #[.agg #[.int .i64 0, .int .i64 0, .int .i64 0], .int .i64 11]) (by simp [results, Try.results31, go_sem]) rfl ⟨rfl, below6 _ _ _ _ _ _⟩
set_option maxHeartbeats 4000000 in
theorem pos_far2 (ax ay az bx by_ bz part len : Int) (w : World) (h1 : 1 ≤ len) (h2 : 0 ≤ part) (h3 : part ≤ len) (m0 : inW len) (m1 : inW ax) (m2 : ¬ inW ay) :
    Calls Try.prog 31 #[.agg #[.int .i64 ax, .int .i64 ay, .int .i64 az], .agg #[.int .i64 bx, .int .i64 by_, .int .i64 bz], .int .i64 part, .int .i64 len] w (posRet w 0 0 0 11) := by
  have n0 := Lib.hid m0; clear m0
  have n1 := Lib.hid m1; clear m1
  have n2 := Lib.hid m2; clear m2
  go_enter Try.func31, Try.ntmps31
  go_wp2
  refine wp_loop_rounds 3 ?_
  rw [rounds_succ]
  go_wp2_with (go_at_call 43; refine (within_yes _ _ n0.out).mono ?_; rintro e w' ⟨rfl, rfl⟩)
  rw [rounds_succ]
  go_wp2_with (go_at_call 43; refine (within_yes _ _ n1.out).mono ?_; rintro e w' ⟨rfl, rfl⟩)
  rw [rounds_succ]
  go_wp2_with (go_at_call 43; refine (within_no _ _ n2.out).mono ?_; rintro e w' ⟨rfl, rfl⟩)
  exact bodyPost_ret (v := .tuple #[.agg #[.int .i64 0, .int .i64 0, .int .i64 0], .int .i64 11]) (by simp [results, Try.results31, go_sem]) rfl ⟨rfl, below6 _ _ _ _ _ _⟩
set_option maxHeartbeats 4000000 in
theorem pos_far3 (ax ay az bx by_ bz part len : Int) (w : World) (h1 : 1 ≤ len) (h2 : 0 ≤ part) (h3 : part ≤ len) (m0 : inW len) (m1 : inW ax) (m2 : inW ay) (m3 : ¬ inW az) :
    Calls Try.prog 31 #[.agg #[.int .i64 ax, .int .i64 ay, .int .i64 az], .agg #[.int .i64 bx, .int .i64 by_, .int .i64 bz], .int .i64 part, .int .i64 len] w (posRet w 0 0 0 11) := by
  have n0 := Lib.hid m0; clear m0
  have n1 := Lib.hid m1; clear m1
  have n2 := Lib.hid m2; clear m2
  have n3 := Lib.hid m3; clear m3
  go_enter Try.func31, Try.ntmps31
  go_wp2
  refine wp_loop_rounds 4 ?_
  rw [rounds_succ]
  go_wp2_with (go_at_call 43; refine (within_yes _ _ n0.out).mono ?_; rintro e w' ⟨rfl, rfl⟩)
  rw [rounds_succ]
  go_wp2_with (go_at_call 43; refine (within_yes _ _ n1.out).mono ?_; rintro e w' ⟨rfl, rfl⟩)
  rw [rounds_succ]
  go_wp2_with (go_at_call 43; refine (within_yes _ _ n2.out).mono ?_; rintro e w' ⟨rfl, rfl⟩)
  rw [rounds_succ]
  go_wp2_with (go_at_call 43; refine (within_no _ _ n3.out).mono ?_; rintro e w' ⟨rfl, rfl⟩)
  exact bodyPost_ret (v := .tuple #[.agg #[.int .i64 0, .int .i64 0, .int .i64 0], .int .i64 11]) (by simp [results, Try.results31, go_sem]) rfl ⟨rfl, below6 _ _ _ _ _ _⟩
set_option maxHeartbeats 4000000 in
theorem pos_far4 (ax ay az bx by_ bz part len : Int) (w : World) (h1 : 1 ≤ len) (h2 : 0 ≤ part) (h3 : part ≤ len) (m0 : inW len) (m1 : inW ax) (m2 : inW ay) (m3 : inW az) (m4 : ¬ inW bx) :
    Calls Try.prog 31 #[.agg #[.int .i64 ax, .int .i64 ay, .int .i64 az], .agg #[.int .i64 bx, .int .i64 by_, .int .i64 bz], .int .i64 part, .int .i64 len] w (posRet w 0 0 0 11) := by
  have n0 := Lib.hid m0; clear m0
  have n1 := Lib.hid m1; clear m1
  have n2 := Lib.hid m2; clear m2
  have n3 := Lib.hid m3; clear m3
  have n4 := Lib.hid m4; clear m4
  go_enter Try.func31, Try.ntmps31
  go_wp2
  refine wp_loop_rounds 5 ?_
  rw [rounds_succ]
  go_wp2_with (go_at_call 43; refine (within_yes _ _ n0.out).mono ?_; rintro e w' ⟨rfl, rfl⟩)
  rw [rounds_succ]
  go_wp2_with (go_at_call 43; refine (within_yes _ _ n1.out).mono ?_; rintro e w' ⟨rfl, rfl⟩)
  rw [rounds_succ]
  go_wp2_with (go_at_call 43; refine (within_yes _ _ n2.out).mono ?_; rintro e w' ⟨rfl, rfl⟩)
  rw [rounds_succ]
  go_wp2_with (go_at_call 43; refine (within_yes _ _ n3.out).mono ?_; rintro e w' ⟨rfl, rfl⟩)
  rw [rounds_succ]
  go_wp2_with (go_at_call 43; refine (within_no _ _ n4.out).mono ?_; rintro e w' ⟨rfl, rfl⟩)
  exact bodyPost_ret (v := .tuple #[.agg #[.int .i64 0, .int .i64 0, .int .i64 0], .int .i64 11]) (by simp [results, Try.results31, go_sem]) rfl ⟨rfl, below6 _ _ _ _ _ _⟩
set_option maxHeartbeats 4000000 in
theorem pos_far5 (ax ay az bx by_ bz part len : Int) (w : World) (h1 : 1 ≤ len) (h2 : 0 ≤ part) (h3 : part ≤ len) (m0 : inW len) (m1 : inW ax) (m2 : inW ay) (m3 : inW az) (m4 : inW bx) (m5 : ¬ inW by_) :
    Calls Try.prog 31 #[.agg #[.int .i64 ax, .int .i64 ay, .int .i64 az], .agg #[.int .i64 bx, .int .i64 by_, .int .i64 bz], .int .i64 part, .int .i64 len] w (posRet w 0 0 0 11) := by
  have n0 := Lib.hid m0; clear m0
  have n1 := Lib.hid m1; clear m1
  have n2 := Lib.hid m2; clear m2
  have n3 := Lib.hid m3; clear m3
  have n4 := Lib.hid m4; clear m4
  have n5 := Lib.hid m5; clear m5
  go_enter Try.func31, Try.ntmps31
  go_wp2
  refine wp_loop_rounds 6 ?_
  rw [rounds_succ]
  go_wp2_with (go_at_call 43; refine (within_yes _ _ n0.out).mono ?_; rintro e w' ⟨rfl, rfl⟩)
  rw [rounds_succ]
  go_wp2_with (go_at_call 43; refine (within_yes _ _ n1.out).mono ?_; rintro e w' ⟨rfl, rfl⟩)
  rw [rounds_succ]
  go_wp2_with (go_at_call 43; refine (within_yes _ _ n2.out).mono ?_; rintro e w' ⟨rfl, rfl⟩)
  rw [rounds_succ]
  go_wp2_with (go_at_call 43; refine (within_yes _ _ n3.out).mono ?_; rintro e w' ⟨rfl, rfl⟩)
  rw [rounds_succ]
  go_wp2_with (go_at_call 43; refine (within_yes _ _ n4.out).mono ?_; rintro e w' ⟨rfl, rfl⟩)
  rw [rounds_succ]
  go_wp2_with (go_at_call 43; refine (within_no _ _ n5.out).mono ?_; rintro e w' ⟨rfl, rfl⟩)
  exact bodyPost_ret (v := .tuple #[.agg #[.int .i64 0, .int .i64 0, .int .i64 0], .int .i64 11]) (by simp [results, Try.results31, go_sem]) rfl ⟨rfl, below6 _ _ _ _ _ _⟩
set_option maxHeartbeats 4000000 in
theorem pos_far6 (ax ay az bx by_ bz part len : Int) (w : World) (h1 : 1 ≤ len) (h2 : 0 ≤ part) (h3 : part ≤ len) (m0 : inW len) (m1 : inW ax) (m2 : inW ay) (m3 : inW az) (m4 : inW bx) (m5 : inW by_) (m6 : ¬ inW bz) :
    Calls Try.prog 31 #[.agg #[.int .i64 ax, .int .i64 ay, .int .i64 az], .agg #[.int .i64 bx, .int .i64 by_, .int .i64 bz], .int .i64 part, .int .i64 len] w (posRet w 0 0 0 11) := by
  have n0 := Lib.hid m0; clear m0
  have n1 := Lib.hid m1; clear m1
  have n2 := Lib.hid m2; clear m2
  have n3 := Lib.hid m3; clear m3
  have n4 := Lib.hid m4; clear m4
  have n5 := Lib.hid m5; clear m5
  have n6 := Lib.hid m6; clear m6
  go_enter Try.func31, Try.ntmps31
  go_wp2
  refine wp_loop_rounds 7 ?_
  rw [rounds_succ]
  go_wp2_with (go_at_call 43; refine (within_yes _ _ n0.out).mono ?_; rintro e w' ⟨rfl, rfl⟩)
  rw [rounds_succ]
  go_wp2_with (go_at_call 43; refine (within_yes _ _ n1.out).mono ?_; rintro e w' ⟨rfl, rfl⟩)
  rw [rounds_succ]
  go_wp2_with (go_at_call 43; refine (within_yes _ _ n2.out).mono ?_; rintro e w' ⟨rfl, rfl⟩)
  rw [rounds_succ]
  go_wp2_with (go_at_call 43; refine (within_yes _ _ n3.out).mono ?_; rintro e w' ⟨rfl, rfl⟩)
  rw [rounds_succ]
  go_wp2_with (go_at_call 43; refine (within_yes _ _ n4.out).mono ?_; rintro e w' ⟨rfl, rfl⟩)
  rw [rounds_succ]
  go_wp2_with (go_at_call 43; refine (within_yes _ _ n5.out).mono ?_; rintro e w' ⟨rfl, rfl⟩)
  rw [rounds_succ]
  go_wp2_with (go_at_call 43; refine (within_no _ _ n6.out).mono ?_; rintro e w' ⟨rfl, rfl⟩)
  exact bodyPost_ret (v := .tuple #[.agg #[.int .i64 0, .int .i64 0, .int .i64 0], .int .i64 11]) (by simp [results, Try.results31, go_sem]) rfl ⟨rfl, below6 _ _ _ _ _ _⟩
set_option maxHeartbeats 4000000 in
theorem pos_ok (ax ay az bx by_ bz part len : Int) (w : World) (h1 : 1 ≤ len) (h2 : 0 ≤ part) (h3 : part ≤ len) (m0 : inW len) (m1 : inW ax) (m2 : inW ay) (m3 : inW az) (m4 : inW bx) (m5 : inW by_) (m6 : inW bz) :
    Calls Try.prog 31 #[.agg #[.int .i64 ax, .int .i64 ay, .int .i64 az], .agg #[.int .i64 bx, .int .i64 by_, .int .i64 bz], .int .i64 part, .int .i64 len] w (posRet w (at_ ax bx part len) (at_ ay by_ part len) (at_ az bz part len) 0) := by
  have n0 := Lib.hid m0; clear m0
  have n1 := Lib.hid m1; clear m1
  have n2 := Lib.hid m2; clear m2
  have n3 := Lib.hid m3; clear m3
  have n4 := Lib.hid m4; clear m4
  have n5 := Lib.hid m5; clear m5
  have n6 := Lib.hid m6; clear m6
  go_enter Try.func31, Try.ntmps31
  go_wp2
  refine wp_loop_rounds 8 ?_
  rw [rounds_succ]
  go_wp2_with (go_at_call 43; refine (within_yes _ _ n0.out).mono ?_; rintro e w' ⟨rfl, rfl⟩)
  rw [rounds_succ]
  go_wp2_with (go_at_call 43; refine (within_yes _ _ n1.out).mono ?_; rintro e w' ⟨rfl, rfl⟩)
  rw [rounds_succ]
  go_wp2_with (go_at_call 43; refine (within_yes _ _ n2.out).mono ?_; rintro e w' ⟨rfl, rfl⟩)
  rw [rounds_succ]
  go_wp2_with (go_at_call 43; refine (within_yes _ _ n3.out).mono ?_; rintro e w' ⟨rfl, rfl⟩)
  rw [rounds_succ]
  go_wp2_with (go_at_call 43; refine (within_yes _ _ n4.out).mono ?_; rintro e w' ⟨rfl, rfl⟩)
  rw [rounds_succ]
  go_wp2_with (go_at_call 43; refine (within_yes _ _ n5.out).mono ?_; rintro e w' ⟨rfl, rfl⟩)
  rw [rounds_succ]
  go_wp2_with (go_at_call 43; refine (within_yes _ _ n6.out).mono ?_; rintro e w' ⟨rfl, rfl⟩)
  rw [rounds_succ]
  go_wp2
  refine wp_region_still_tail 19 (by kernel_rfl) (by kernel_rfl) ?_
  change wpStill _ _ (World.drew _) (fun a => wpList _ _ _ _ a (World.drew _)) _ _
  simp only [List.take_succ_cons, List.take_zero, List.drop_succ_cons, List.drop_zero]
  repeat still_step
  still_call ((at_any ax bx part len _ _ _ (by go_simp) (by go_simp) n1.out n4.out h2 h3 h1 n0.out.2).mono fun _ _ h => ⟨h.1, h.2.symm⟩)
  repeat still_step
  still_call ((at_any ay by_ part len _ _ _ (by go_simp) (by go_simp) n2.out n5.out h2 h3 h1 n0.out.2).mono fun _ _ h => ⟨h.1, h.2.symm⟩)
  repeat still_step
  still_call ((at_any az bz part len _ _ _ (by go_simp) (by go_simp) n3.out n6.out h2 h3 h1 n0.out.2).mono fun _ _ h => ⟨h.1, h.2.symm⟩)
  repeat still_step
  try refine wpStill_nil ?_
  go_wp2
  exact bodyPost_ret (v := .tuple #[.agg #[.int .i64 (at_ ax bx part len), .int .i64 (at_ ay by_ part len), .int .i64 (at_ az bz part len)], .int .i64 0]) (by simp [results, Try.results31, go_sem]) rfl ⟨rfl, (below6 _ _ _ _ _ _).drew⟩
/-- what Position tells -/
def posS (ax ay az bx by_ bz part len : Int) : Option (Int × Int × Int × Int) :=
  if len < 1 ∨ part < 0 ∨ len < part then some (0, 0, 0, 1)
  else if inW len ∧ inW ax ∧ inW ay ∧ inW az ∧ inW bx ∧ inW by_ ∧ inW bz then some (at_ ax bx part len, at_ ay by_ part len, at_ az bz part len, 0)
  else some (0, 0, 0, 11)
theorem pos_calls (ax ay az bx by_ bz part len r1 r2 r3 r4 : Int) (w : World) (h : posS ax ay az bx by_ bz part len = some (r1, r2, r3, r4)) :
    Calls Try.prog 31 #[.agg #[.int .i64 ax, .int .i64 ay, .int .i64 az], .agg #[.int .i64 bx, .int .i64 by_, .int .i64 bz], .int .i64 part, .int .i64 len] w fun e w' => e = .returned (.tuple #[.agg #[.int .i64 r1, .int .i64 r2, .int .i64 r3], .int .i64 r4]) ∧ Below w.heap.size w w' := by
  unfold posS at h
  by_cases c : len < 1 ∨ part < 0 ∨ len < part
  · rw [if_pos c] at h
    simp only [Option.some.injEq, Prod.mk.injEq] at h
    obtain ⟨rfl, rfl, rfl, rfl⟩ := h
    by_cases c1 : len < 1
    · exact pos_bad1 ax ay az bx by_ bz part len w c1
    · by_cases c2 : part < 0
      · exact pos_bad2 ax ay az bx by_ bz part len w (by omega) c2
      · exact pos_bad3 ax ay az bx by_ bz part len w (by omega) (by omega) (by omega)
  · rw [if_neg c] at h
    have a1 : 1 ≤ len := by omega
    have a2 : 0 ≤ part := by omega
    have a3 : part ≤ len := by omega
    by_cases m : inW len ∧ inW ax ∧ inW ay ∧ inW az ∧ inW bx ∧ inW by_ ∧ inW bz
    · rw [if_pos m] at h
      simp only [Option.some.injEq, Prod.mk.injEq] at h
      obtain ⟨rfl, rfl, rfl, rfl⟩ := h
      obtain ⟨m0, m1, m2, m3, m4, m5, m6⟩ := m
      exact pos_ok ax ay az bx by_ bz part len w a1 a2 a3 m0 m1 m2 m3 m4 m5 m6
    · rw [if_neg m] at h
      simp only [Option.some.injEq, Prod.mk.injEq] at h
      obtain ⟨rfl, rfl, rfl, rfl⟩ := h
      by_cases m0 : inW len
      · by_cases m1 : inW ax
        · by_cases m2 : inW ay
          · by_cases m3 : inW az
            · by_cases m4 : inW bx
              · by_cases m5 : inW by_
                · exact pos_far6 ax ay az bx by_ bz part len w a1 a2 a3 m0 m1 m2 m3 m4 m5 (fun m6 => m ⟨m0, m1, m2, m3, m4, m5, m6⟩)
                · exact pos_far5 ax ay az bx by_ bz part len w a1 a2 a3 m0 m1 m2 m3 m4 m5
              · exact pos_far4 ax ay az bx by_ bz part len w a1 a2 a3 m0 m1 m2 m3 m4
            · exact pos_far3 ax ay az bx by_ bz part len w a1 a2 a3 m0 m1 m2 m3
          · exact pos_far2 ax ay az bx by_ bz part len w a1 a2 a3 m0 m1 m2
        · exact pos_far1 ax ay az bx by_ bz part len w a1 a2 a3 m0 m1
      · exact pos_far0 ax ay az bx by_ bz part len w a1 a2 a3 m0
end Go.Proofs.Ytmaegpblaihepaa.Hand
