-- The machine side of a proof, written by a program of the session out of Lean's print of the loaded functions. Lean checks it.
import Derived.Test.YtmaegpblaihepaaWc
import Derived.Test.YtmaegpblaihepaaFx0
import Derived.Test.YtmaegpblaihepaaFa
namespace Go.Proofs.Ytmaegpblaihepaa.F
open Go.RowKit Go.Proofs.YtmaegpblaihepaaW.PrintWords Go.Proofs.YtmaegpblaihepaaW.PrintLast Go.Proofs.YtmaegpblaihepaaW.PrintMore
attribute [local go_sem] max2_int min2_int max_two min_two max_three min_three max_four min_four   -- for this text's walks alone
set_option linter.unusedVariables false
set_option linter.unusedSimpArgs false
def profile_Limits_brake.l0 : Nat → Int → Int → Int → Int → Int → Int → Int → Option (Int × Int)
 | 0, _, _, _, _, _, _, _ => none
 | k + 1, x5, x6, x118000, x118001, x118002, x119000, x119001 => if x5 < x6 then ((profile_floor.f (wrap64 (x5 + x6)) 2).bind fun t120 => ((profile_Limits_fading.f x118000 x118001 x118002 (wrap64 (-t120))).bind fun t121 => (if (wrap64 ((wrap64 (x119000 + t120)) - t121)) ≥ 0 then (profile_Limits_brake.l0 k x5 t120 x118000 x118001 x118002 x119000 x119001) else (profile_Limits_brake.l0 k (wrap64 (t120 + 1)) x6 x118000 x118001 x118002 x119000 x119001)))) else (some (wrap64 (x119000 + x5), x5))
def profile_Limits_brake.f (k : Nat) (a0_0 : Int) (a0_1 : Int) (a0_2 : Int) (a1_0 : Int) (a1_1 : Int) : Option (Int × Int) := profile_Limits_brake.l0 k (mx (wrap64 (-a0_1)) (wrap64 (a1_1 - a0_2))) (mn a0_1 (wrap64 (a1_1 + a0_2))) a0_0 a0_1 a0_2 a1_0 a1_1
theorem profile_Limits_brake.mono_l : ∀ k, (∀ y0 y1 y2 y3 y4 y5 y6, LeO (profile_Limits_brake.l0 k y0 y1 y2 y3 y4 y5 y6) (profile_Limits_brake.l0 (k + 1) y0 y1 y2 y3 y4 y5 y6))
 | 0 => fun _ _ _ _ _ _ _ r h => by simp [profile_Limits_brake.l0] at h
 | k + 1 => by
  have ih0 := profile_Limits_brake.mono_l k
  ·intro y0 y1 y2 y3 y4 y5 y6
   unfold profile_Limits_brake.l0
   repeat' first
   | (with_reducible exact ih0 _ _ _ _ _ _ _)
   | (with_reducible exact LeO.refl _)
   | (with_reducible exact LeO.none _)
   | (with_reducible refine LeO.ite ?_ ?_)
   | (with_reducible refine LeO.bind ?_ (fun _ => ?_))
   | exact ih0 _ _ _ _ _ _ _
   | exact LeO.none _
   | refine LeO.ite ?_ ?_
   | refine LeO.bind ?_ (fun _ => ?_)
theorem profile_Limits_brake.mono : ∀ a0 a1 a2 a3 a4 k, LeO (profile_Limits_brake.f k a0 a1 a2 a3 a4) (profile_Limits_brake.f (k + 1) a0 a1 a2 a3 a4) := by
 intro a0 a1 a2 a3 a4 k
 have ih0 := profile_Limits_brake.mono_l k
 unfold profile_Limits_brake.f
 repeat' first
   | (with_reducible exact ih0 _ _ _ _ _ _ _)
   | (with_reducible exact LeO.refl _)
   | (with_reducible exact LeO.none _)
   | (with_reducible refine LeO.ite ?_ ?_)
   | (with_reducible refine LeO.bind ?_ (fun _ => ?_))
   | exact ih0 _ _ _ _ _ _ _
   | exact LeO.none _
   | refine LeO.ite ?_ ?_
   | refine LeO.bind ?_ (fun _ => ?_)
def profile_Limits_brake.T1 : Bool × List (List Nat × List Nat) := (true, [([], []), ([0], [0]), ([1], [1]), ([], []), ([3], [3]), ([], []), ([5], [5]), ([4, 6], [4, 6]), ([2, 7], [2, 7]), ([], []), ([9], [9]), ([], []), ([11], [11]), ([], []), ([13], [13]), ([12, 14], [12, 14]), ([10, 15], [10, 15]), ([8, 0, 1, 2, 3, 4, 5, 6, 7, 8], [8]), ([16, 17, 0, 1, 2, 3, 4, 5, 6, 7, 8, 9, 10, 11, 12, 13, 14, 15, 16, 17], [16])])
def profile_Limits_brake.B1 : List Nat := [0, 1, 3, 0, 8, 0, 32, 120, 255, 0, 512, 0, 2048, 0, 8192, 30720, 65024, 511, 262143]
theorem profile_Limits_brake.tab1 : rtab .any (opsOf Try.f42 1) = profile_Limits_brake.T1 := by kernel_rfl
theorem profile_Limits_brake.bits1 : waitsOk profile_Limits_brake.T1.2 profile_Limits_brake.B1 = true := by kernel_rfl
def profile_Limits_brake.T4 : Bool × List (List Nat × List Nat) := (true, [([], []), ([0], [0]), ([], []), ([1, 2], [1, 2]), ([], []), ([], []), ([5], [5]), ([4, 6], [4, 6]), ([3, 7], [3, 7]), ([8], [8])])
def profile_Limits_brake.B4 : List Nat := [0, 1, 0, 7, 0, 0, 32, 112, 255, 511]
theorem profile_Limits_brake.tab4 : rtab .any (opsOf Try.f42 4) = profile_Limits_brake.T4 := by kernel_rfl
theorem profile_Limits_brake.bits4 : waitsOk profile_Limits_brake.T4.2 profile_Limits_brake.B4 = true := by kernel_rfl
set_option maxHeartbeats 8000000 in
set_option maxRecDepth 100000 in
theorem profile_Limits_brake.calls (k : Nat) (a0_0 : Int) (a0_1 : Int) (a0_2 : Int) (a1_0 : Int) (a1_1 : Int) (r1 : Int) (r2 : Int) (w : World) (h : profile_Limits_brake.f k a0_0 a0_1 a0_2 a1_0 a1_1 = some (r1, r2)) :
  Calls Try.prog 42 #[.agg #[.int .i64 a0_0, .int .i64 a0_1, .int .i64 a0_2], .agg #[.int .i64 a1_0, .int .i64 a1_1]] w fun e w' => e = .returned (.agg #[.int .i64 r1, .int .i64 r2]) ∧ Below w.heap.size w w' := by
 have hu31 := Try.underlying31
 have hu81 := Try.underlying81
 have HB := Aside0.mk (Below.refl w.heap.size w)
 have H : (profile_Limits_brake.l0 k (mx (wrap64 (-a0_1)) (wrap64 (a1_1 - a0_2))) (mn a0_1 (wrap64 (a1_1 + a0_2))) a0_0 a0_1 a0_2 a1_0 a1_1) = some (r1, r2) := h
 clear h
 obtain ⟨ji3, hji3⟩ : ∃ j_ : Int, (mx (wrap64 (-a0_1)) (wrap64 (a1_1 - a0_2))) = j_ := ⟨_, rfl⟩
 replace H : (profile_Limits_brake.l0 k ji3 (mn a0_1 (wrap64 (a1_1 + a0_2))) a0_0 a0_1 a0_2 a1_0 a1_1) = some (r1, r2) := by first | (rw [hji3] at H; exact H) | (simp only [hji3] at H ⊢; exact H)
 have hji3_ : (if (wrap64 (-a0_1)) < (wrap64 (a1_1 - a0_2)) then (wrap64 (a1_1 - a0_2)) else (wrap64 (-a0_1))) = ji3 := hji3
 obtain ⟨ji4, hji4⟩ : ∃ j_ : Int, (mn a0_1 (wrap64 (a1_1 + a0_2))) = j_ := ⟨_, rfl⟩
 replace H : (profile_Limits_brake.l0 k ji3 ji4 a0_0 a0_1 a0_2 a1_0 a1_1) = some (r1, r2) := by first | (rw [hji4] at H; exact H) | (simp only [hji4] at H ⊢; exact H)
 have hji4_ : (if (wrap64 (a1_1 + a0_2)) < a0_1 then (wrap64 (a1_1 + a0_2)) else a0_1) = ji4 := hji4
 have H' := Aside0.mk H
 clear H
 go_enter Try.func42, Try.ntmps42
 try go_wp2_with (first | ((with_reducible refine gate_dst (N := 2) rfl ?_); refine box_event ?hg (N := 2) ?hd (cs := #[.int .i64 a0_0, .int .i64 a0_1, .int .i64 a0_2]) (t := 31) ?hr ?_; (case hd => rfl); (case hg => rfl); (case hr => first | (go_simp; done) | (go_simp; rfl)); intro gb117 hg w5 hbox hb; have n0_ := Aside0.mk (below_step (by repeat (first | (with_reducible first | exact HB.out | apply below_alloc | apply pw_below_drewN | apply below_drew1) | exact HB.out)) hb); have n1_ := Aside0.mk (hbox); have n2_ := Aside0.mk ((by rw [hg]; exact (below_size (by repeat (first | (with_reducible first | exact HB.out | apply below_alloc | apply pw_below_drewN | apply below_drew1) | exact HB.out))) : w.heap.size ≤ gb117)); have n3_ := Aside0.mk ((by rw [hg]; exact (below_size (by repeat (first | (with_reducible first | exact HB.out | apply below_alloc | apply pw_below_drewN | apply below_drew1) | exact HB.out))) : w.heap.size ≤ gb117)); clear HB; have HB := n0_; have BK117 := n1_; have GW117 := n2_; have GE117 := n3_; clear n0_ n1_ n2_ n3_; clear hb hbox hg) | ((with_reducible refine gate_dst (N := 3) rfl ?_); refine box_event ?hg (N := 3) ?hd (cs := #[.int .i64 a1_0, .int .i64 a1_1]) (t := 81) ?hr ?_; (case hd => rfl); (case hg => rfl); (case hr => first | (go_simp; done) | (go_simp; rfl)); intro gb118 hg w6 hbox hb; have n0_ := Aside0.mk (blk_below (g := gb117) (o := .cells #[.int .i64 a0_0, .int .i64 a0_1, .int .i64 a0_2] 31 (0, 0)) (by (with_reducible repeat (first | refine blk_drewN ?_ _ | refine blk_drew ?_ | refine blk_alloc ?_ _)); exact BK117.out) hb); have n1_ := Aside0.mk (below_step (by repeat (first | (with_reducible first | exact HB.out | apply below_alloc | apply pw_below_drewN | apply below_drew1 | refine below_set ?_ GE117.out) | exact HB.out)) hb); have n2_ := Aside0.mk (hbox); have n3_ := Aside0.mk ((by rw [hg]; exact (below_size (by repeat (first | (with_reducible first | exact HB.out | apply below_alloc | apply pw_below_drewN | apply below_drew1 | refine below_set ?_ GE117.out) | exact HB.out))) : w.heap.size ≤ gb118)); have n4_ := Aside0.mk ((by rw [hg]; exact (below_size (by repeat (first | (with_reducible first | exact HB.out | apply below_alloc | apply pw_below_drewN | apply below_drew1 | refine below_set ?_ GE117.out) | exact HB.out))) : w.heap.size ≤ gb118)); have n5_ := Aside0.mk ((by rw [hg]; exact Nat.ne_of_lt (blk_lt (g := gb117) (o := .cells #[.int .i64 a0_0, .int .i64 a0_1, .int .i64 a0_2] 31 (0, 0)) (by (with_reducible repeat (first | refine blk_drewN ?_ _ | refine blk_drew ?_ | refine blk_alloc ?_ _)); exact BK117.out)) : gb117 ≠ gb118)); have n6_ := Aside0.mk ((by rw [hg]; exact Nat.ne_of_gt (blk_lt (g := gb117) (o := .cells #[.int .i64 a0_0, .int .i64 a0_1, .int .i64 a0_2] 31 (0, 0)) (by (with_reducible repeat (first | refine blk_drewN ?_ _ | refine blk_drew ?_ | refine blk_alloc ?_ _)); exact BK117.out)) : gb118 ≠ gb117)); clear BK117; clear HB; have BK117 := n0_; have HB := n1_; have BK118 := n2_; have GW118 := n3_; have GE118 := n4_; have NB117_118 := n5_; have NB118_117 := n6_; clear n0_ n1_ n2_ n3_ n4_ n5_ n6_; clear hb hbox hg) | ((with_reducible refine gate_dst (N := 4) rfl ?_); refine box_event ?hg (N := 4) ?hd (cs := #[.int .i64 0, .int .i64 0]) (t := 81) ?hr ?_; (case hd => rfl); (case hg => rfl); (case hr => first | (go_simp; done) | (go_simp; rfl)); intro gb119 hg w7 hbox hb; have n0_ := Aside0.mk (blk_below (g := gb117) (o := .cells #[.int .i64 a0_0, .int .i64 a0_1, .int .i64 a0_2] 31 (0, 0)) (by (with_reducible repeat (first | refine blk_drewN ?_ _ | refine blk_drew ?_ | refine blk_alloc ?_ _)); exact BK117.out) hb); have n1_ := Aside0.mk (blk_below (g := gb118) (o := .cells #[.int .i64 a1_0, .int .i64 a1_1] 81 (0, 0)) (by (with_reducible repeat (first | refine blk_drewN ?_ _ | refine blk_drew ?_ | refine blk_alloc ?_ _)); exact BK118.out) hb); have n2_ := Aside0.mk (below_step (by repeat (first | (with_reducible first | exact HB.out | apply below_alloc | apply pw_below_drewN | apply below_drew1 | refine below_set ?_ GE117.out | refine below_set ?_ GE118.out) | exact HB.out)) hb); have n3_ := Aside0.mk (hbox); have n4_ := Aside0.mk ((by rw [hg]; exact (below_size (by repeat (first | (with_reducible first | exact HB.out | apply below_alloc | apply pw_below_drewN | apply below_drew1 | refine below_set ?_ GE117.out | refine below_set ?_ GE118.out) | exact HB.out))) : w.heap.size ≤ gb119)); have n5_ := Aside0.mk ((by rw [hg]; exact (below_size (by repeat (first | (with_reducible first | exact HB.out | apply below_alloc | apply pw_below_drewN | apply below_drew1 | refine below_set ?_ GE117.out | refine below_set ?_ GE118.out) | exact HB.out))) : w.heap.size ≤ gb119)); have n6_ := Aside0.mk ((by rw [hg]; exact Nat.ne_of_lt (blk_lt (g := gb117) (o := .cells #[.int .i64 a0_0, .int .i64 a0_1, .int .i64 a0_2] 31 (0, 0)) (by (with_reducible repeat (first | refine blk_drewN ?_ _ | refine blk_drew ?_ | refine blk_alloc ?_ _)); exact BK117.out)) : gb117 ≠ gb119)); have n7_ := Aside0.mk ((by rw [hg]; exact Nat.ne_of_gt (blk_lt (g := gb117) (o := .cells #[.int .i64 a0_0, .int .i64 a0_1, .int .i64 a0_2] 31 (0, 0)) (by (with_reducible repeat (first | refine blk_drewN ?_ _ | refine blk_drew ?_ | refine blk_alloc ?_ _)); exact BK117.out)) : gb119 ≠ gb117)); have n8_ := Aside0.mk ((by rw [hg]; exact Nat.ne_of_lt (blk_lt (g := gb118) (o := .cells #[.int .i64 a1_0, .int .i64 a1_1] 81 (0, 0)) (by (with_reducible repeat (first | refine blk_drewN ?_ _ | refine blk_drew ?_ | refine blk_alloc ?_ _)); exact BK118.out)) : gb118 ≠ gb119)); have n9_ := Aside0.mk ((by rw [hg]; exact Nat.ne_of_gt (blk_lt (g := gb118) (o := .cells #[.int .i64 a1_0, .int .i64 a1_1] 81 (0, 0)) (by (with_reducible repeat (first | refine blk_drewN ?_ _ | refine blk_drew ?_ | refine blk_alloc ?_ _)); exact BK118.out)) : gb119 ≠ gb118)); clear BK117; clear BK118; clear HB; have BK117 := n0_; have BK118 := n1_; have HB := n2_; have BK119 := n3_; have GW119 := n4_; have GE119 := n5_; have NB117_119 := n6_; have NB119_117 := n7_; have NB118_119 := n8_; have NB119_118 := n9_; clear n0_ n1_ n2_ n3_ n4_ n5_ n6_ n7_ n8_ n9_; clear hb hbox hg))
 have n0_ := Aside0.mk (blk_drew BK117.out)
 have n1_ := Aside0.mk (blk_drew BK118.out)
 have n2_ := Aside0.mk (blk_drew BK119.out)
 have n3_ := Aside0.mk (below_drew1 HB.out)
 clear BK117
 clear BK118
 clear BK119
 clear HB
 have BK117 := n0_
 have BK118 := n1_
 have BK119 := n2_
 have HB := n3_
 clear n0_ n1_ n2_ n3_
 refine start_ (n := 19) (S := fun w' => w'.cell? ⟨gb117, 0, none⟩ = some (.int .i64 a0_0) ∧ w'.cell? ⟨gb117, 1, none⟩ = some (.int .i64 a0_1) ∧ w'.cell? ⟨gb117, 2, none⟩ = some (.int .i64 a0_2) ∧ w'.cell? ⟨gb118, 0, none⟩ = some (.int .i64 a1_0) ∧ w'.cell? ⟨gb118, 1, none⟩ = some (.int .i64 a1_1)) (ds := []) #[false, false, false, false, false, false, false, false, false, false, false, false, false, false, false, false, false, false, false] (by kernel_rfl) rfl rfl ⟨(blk_cell BK117.out 0).trans rfl, (blk_cell BK117.out 1).trans rfl, (blk_cell BK117.out 2).trans rfl, (blk_cell BK118.out 0).trans rfl, (blk_cell BK118.out 1).trans rfl⟩ (fun hHeld => ?_); refine with_tabW profile_Limits_brake.tab1 profile_Limits_brake.bits1 (fun HT_ HW_ => ?_)
 generalize w7.drew = w8 at BK117 BK118 BK119 HB hHeld ⊢
 refine pu 0 8 (bzz 19 1) (any_of HT_.out (by kernel_rfl)) ?_
 refine pu 3 11 (bzz 19 9) (any_of HT_.out (by kernel_rfl)) ?_
 refine pu 5 13 (bzz 19 41) (any_of HT_.out (by kernel_rfl)) ?_
 refine pu 9 17 (bzz 19 553) (any_of HT_.out (by kernel_rfl)) ?_
 refine pu 11 19 (bzz 19 2601) (any_of HT_.out (by kernel_rfl)) ?_
 refine pu 13 21 (bzz 19 10793) (any_of HT_.out (by kernel_rfl)) ?_
 refine ta 1 9 (bzz 19 10795) (take_ofW HT_.out HW_.out (by kernel_rfl)) hHeld ?_
 refine pu 2 10 (bzz 19 10799) (any_of HT_.out (by kernel_rfl)) ?_
 refine ta 4 12 (bzz 19 10815) (take_ofW HT_.out HW_.out (by kernel_rfl)) hHeld ?_
 refine ta 6 14 (bzz 19 10879) (take_ofW HT_.out HW_.out (by kernel_rfl)) hHeld ?_
 refine pu 7 15 (bzz 19 11007) (any_of HT_.out (by kernel_rfl)) ?_
 refine pu 8 16 (bzz 19 11263) (any_of HT_.out (by kernel_rfl)) ?_
 refine pu 17 5 (bzz 19 142335) (any_of HT_.out (by kernel_rfl)) ?_
 refine ta 10 18 (bzz 19 143359) (take_ofW HT_.out HW_.out (by kernel_rfl)) hHeld ?_
 refine ta 12 20 (bzz 19 147455) (take_ofW HT_.out HW_.out (by kernel_rfl)) hHeld ?_
 refine ta 14 22 (bzz 19 163839) (take_ofW HT_.out HW_.out (by kernel_rfl)) hHeld ?_
 refine pu 15 23 (bzz 19 196607) (any_of HT_.out (by kernel_rfl)) ?_
 refine pu 16 24 (bzz 19 262143) (any_of HT_.out (by kernel_rfl)) ?_
 refine pu 18 6 (bzz 19 524287) (any_of HT_.out (by kernel_rfl)) ?_
 refine done_ (done_of HT_.out (by kernel_rfl)) ?_
 try go_wp2
 go_loopg [5, 6] k (fun kq v5 v6 w' => ∃ (x5_1 : Int) (x6_1 : Int), v5 = .int .i64 x5_1 ∧ v6 = .int .i64 x6_1 ∧ Aside0 (profile_Limits_brake.l0 kq x5_1 x6_1 a0_0 a0_1 a0_2 a1_0 a1_1 = some (r1, r2)) ∧ Aside0 (kq ≤ k) ∧ Aside0 (w'.heap[gb117]? = some (.cells #[.int .i64 a0_0, .int .i64 a0_1, .int .i64 a0_2] 31 (0, 0))) ∧ Aside0 (w'.heap[gb118]? = some (.cells #[.int .i64 a1_0, .int .i64 a1_1] 81 (0, 0))) ∧ Aside0 (w'.heap[gb119]? = some (.cells #[.int .i64 0, .int .i64 0] 81 (0, 0))) ∧ Aside0 (Below w.heap.size w w'))
 case atStart => exact ⟨(ji3), (ji4), (by first | rfl | (simp; done) | (simp only [← hji3] <;> (first | rfl | simp)) | (simp [*]; done)), (by first | rfl | (simp; done) | (simp only [← hji4] <;> (first | rfl | simp)) | (simp [*]; done)), H', ⟨Nat.le_refl _⟩, ⟨by (with_reducible repeat (first | refine blk_drewN ?_ _ | refine blk_drew ?_ | refine blk_alloc ?_ _)); exact BK117.out⟩, ⟨by (with_reducible repeat (first | refine blk_drewN ?_ _ | refine blk_drew ?_ | refine blk_alloc ?_ _)); exact BK118.out⟩, ⟨by (with_reducible repeat (first | refine blk_drewN ?_ _ | refine blk_drew ?_ | refine blk_alloc ?_ _)); exact BK119.out⟩, ⟨by repeat (first | (with_reducible first | exact HB.out | apply below_alloc | apply pw_below_drewN | apply below_drew1 | refine below_set ?_ GE117.out | refine below_set ?_ GE118.out | refine below_set ?_ GE119.out) | exact HB.out)⟩⟩
 case round =>
  clear H'
  try clear p2
  try clear c4
  try clear p6
  obtain ⟨x5_1, x6_1, rfl, rfl, HA, HK1, BK117, BK118, BK119, HB⟩ := hrel
  cases gk with
  | zero => exact absurd HA.out (by simp [profile_Limits_brake.l0])
  | succ k1 =>
   have H := HA.out
   clear HA
   simp only [profile_Limits_brake.l0] at H
   by_cases c9 : x5_1 < x6_1
   ·rw [if_pos c9] at H
    have c9b0 : decide (x5_1 < x6_1) = true := decide_eq_true c9
    clear c9
    replace H := Option.bind_eq_some_iff.mp H
    obtain ⟨t120, A100, H⟩ := H
    replace H : ((profile_Limits_fading.f a0_0 a0_1 a0_2 (wrap64 (-t120))).bind fun t121 => (if (wrap64 ((wrap64 (a1_0 + t120)) - t121)) ≥ 0 then (profile_Limits_brake.l0 k1 x5_1 t120 a0_0 a0_1 a0_2 a1_0 a1_1) else (profile_Limits_brake.l0 k1 (wrap64 (t120 + 1)) x6_1 a0_0 a0_1 a0_2 a1_0 a1_1))) = some (r1, r2) := H
    have A10 := Aside0.mk A100
    clear A100
    replace H := Option.bind_eq_some_iff.mp H
    obtain ⟨t121, A110, H⟩ := H
    replace H : (if (wrap64 ((wrap64 (a1_0 + t120)) - t121)) ≥ 0 then (profile_Limits_brake.l0 k1 x5_1 t120 a0_0 a0_1 a0_2 a1_0 a1_1) else (profile_Limits_brake.l0 k1 (wrap64 (t120 + 1)) x6_1 a0_0 a0_1 a0_2 a1_0 a1_1)) = some (r1, r2) := H
    have A11 := Aside0.mk A110
    clear A110
    by_cases c12 : (wrap64 ((wrap64 (a1_0 + t120)) - t121)) ≥ 0
    ·rw [if_pos c12] at H
     have c12b0 : decide (0 ≤ (wrap64 ((wrap64 (a1_0 + t120)) - t121))) = true := decide_eq_true c12
     clear c12
     have H' := Aside0.mk H
     clear H
     try go_wp2_with (first | ((with_reducible refine gate_callee (f := 45) rfl ?_); refine goesL_ (some 31) rfl rfl Try.func45 (by kernel_rfl) rfl #[.int .i64 (wrap64 (x5_1 + x6_1)), .int .i64 2] rfl (by (try simp only [List.map_toArray, List.map_cons, List.map_nil]); first | done | rfl | (simp only [List.length_drop, List.length_take]; rfl)) ?_; (with_reducible refine (profile_floor.calls (wrap64 (x5_1 + x6_1)) 2 t120 _ A10.out).mono ?_); rintro e w' ⟨rfl, ⟨nd, rfl⟩⟩; refine ⟨_, rfl, ?_⟩))
     (try (rw [drewN_self wr]; generalize hq_ : World.drewN wr _ = wr; have n0_ : Aside0 (wr.heap[gb117]? = some (.cells #[.int .i64 a0_0, .int .i64 a0_1, .int .i64 a0_2] 31 (0, 0))) := ⟨by rw [← hq_]; exact (by (with_reducible repeat (first | refine blk_drewN ?_ _ | refine blk_drew ?_ | refine blk_alloc ?_ _)); exact BK117.out)⟩; have n1_ : Aside0 (wr.heap[gb118]? = some (.cells #[.int .i64 a1_0, .int .i64 a1_1] 81 (0, 0))) := ⟨by rw [← hq_]; exact (by (with_reducible repeat (first | refine blk_drewN ?_ _ | refine blk_drew ?_ | refine blk_alloc ?_ _)); exact BK118.out)⟩; have n2_ : Aside0 (wr.heap[gb119]? = some (.cells #[.int .i64 0, .int .i64 0] 81 (0, 0))) := ⟨by rw [← hq_]; exact (by (with_reducible repeat (first | refine blk_drewN ?_ _ | refine blk_drew ?_ | refine blk_alloc ?_ _)); exact BK119.out)⟩; have n3_ : Aside0 (Below w.heap.size w wr) := ⟨by rw [← hq_]; exact (by repeat (first | (with_reducible first | exact HB.out | apply below_alloc | apply pw_below_drewN | apply below_drew1 | refine below_set ?_ GE117.out | refine below_set ?_ GE118.out | refine below_set ?_ GE119.out) | exact HB.out))⟩; clear BK117 BK118 BK119 HB hq_; have BK117 := n0_; have BK118 := n1_; have BK119 := n2_; have HB := n3_; clear n0_ n1_ n2_ n3_))
     have n0_ := Aside0.mk (blk_drew BK117.out)
     have n1_ := Aside0.mk (blk_drew BK118.out)
     have n2_ := Aside0.mk (blk_drew BK119.out)
     have n3_ := Aside0.mk (below_drew1 HB.out)
     clear BK117
     clear BK118
     clear BK119
     clear HB
     have BK117 := n0_
     have BK118 := n1_
     have BK119 := n2_
     have HB := n3_
     clear n0_ n1_ n2_ n3_
     refine start_ (n := 10) (S := fun w' => w'.cell? ⟨gb118, 0, none⟩ = some (.int .i64 a1_0) ∧ w'.cell? ⟨gb118, 1, none⟩ = some (.int .i64 a1_1) ∧ w'.cell? ⟨gb117, 0, none⟩ = some (.int .i64 a0_0) ∧ w'.cell? ⟨gb117, 1, none⟩ = some (.int .i64 a0_1) ∧ w'.cell? ⟨gb117, 2, none⟩ = some (.int .i64 a0_2)) (ds := []) #[false, false, false, false, false, false, false, false, false, false] (by kernel_rfl) rfl rfl ⟨(blk_cell BK118.out 0).trans rfl, (blk_cell BK118.out 1).trans rfl, (blk_cell BK117.out 0).trans rfl, (blk_cell BK117.out 1).trans rfl, (blk_cell BK117.out 2).trans rfl⟩ (fun hHeld => ?_); refine with_tabW profile_Limits_brake.tab4 profile_Limits_brake.bits4 (fun HT_ HW_ => ?_)
     generalize wr.drew = w13 at BK117 BK118 BK119 HB hHeld ⊢
     refine pu 0 32 (bzz 10 1) (any_of HT_.out (by kernel_rfl)) ?_
     refine pu 2 34 (bzz 10 5) (any_of HT_.out (by kernel_rfl)) ?_
     refine pu 5 37 (bzz 10 37) (any_of HT_.out (by kernel_rfl)) ?_
     refine pu 6 38 (bzz 10 101) (any_of HT_.out (by kernel_rfl)) ?_
     refine ta 1 33 (bzz 10 103) (take_ofW HT_.out HW_.out (by kernel_rfl)) hHeld ?_
     refine pu 3 35 (bzz 10 111) (any_of HT_.out (by kernel_rfl)) ?_
     refine ta 4 36 (bzz 10 127) (take_ofW HT_.out HW_.out (by kernel_rfl)) hHeld ?_
     refine one_ (i := 7) (N := some 39) (bzz 10 255) rfl rfl (one_of HT_.out (by kernel_rfl)) (by decide) (fun K hK => ?_)
     refine goes_ Try.func50 (by kernel_rfl) rfl #[.agg #[.int .i64 a0_0, .int .i64 a0_1, .int .i64 a0_2], .int .i64 (wrap64 (-t120))] (by rfl) rfl rfl (by (try simp only [List.map_toArray, List.map_cons, List.map_nil]); first | done | rfl | (simp only [List.length_drop, List.length_take]; rfl)) ?_
     with_reducible refine (profile_Limits_fading.calls a0_0 a0_1 a0_2 (wrap64 (-t120)) t121 _ A11.out).mono ?_
     rintro e w14 ⟨rfl, hb⟩
     refine ⟨_, rfl, ?_⟩
     have n0_ := Aside0.mk (blk_below (g := gb117) (o := .cells #[.int .i64 a0_0, .int .i64 a0_1, .int .i64 a0_2] 31 (0, 0)) (by (with_reducible repeat (first | refine blk_drewN ?_ _ | refine blk_drew ?_ | refine blk_alloc ?_ _)); exact BK117.out) hb)
     have n1_ := Aside0.mk (blk_below (g := gb118) (o := .cells #[.int .i64 a1_0, .int .i64 a1_1] 81 (0, 0)) (by (with_reducible repeat (first | refine blk_drewN ?_ _ | refine blk_drew ?_ | refine blk_alloc ?_ _)); exact BK118.out) hb)
     have n2_ := Aside0.mk (blk_below (g := gb119) (o := .cells #[.int .i64 0, .int .i64 0] 81 (0, 0)) (by (with_reducible repeat (first | refine blk_drewN ?_ _ | refine blk_drew ?_ | refine blk_alloc ?_ _)); exact BK119.out) hb)
     have n3_ := Aside0.mk (below_step (by repeat (first | (with_reducible first | exact HB.out | apply below_alloc | apply pw_below_drewN | apply below_drew1 | refine below_set ?_ GE117.out | refine below_set ?_ GE118.out | refine below_set ?_ GE119.out) | exact HB.out)) hb)
     clear BK117
     clear BK118
     clear BK119
     clear HB
     have BK117 := n0_
     have BK118 := n1_
     have BK119 := n2_
     have HB := n3_
     clear n0_ n1_ n2_ n3_
     (try clear hb)
     (try clear hb2)
     (try clear hk)
     (try clear hi)
     refine hK.out _ _ ⟨(blk_cell BK118.out 0).trans rfl, (blk_cell BK118.out 1).trans rfl, (blk_cell BK117.out 0).trans rfl, (blk_cell BK117.out 1).trans rfl, (blk_cell BK117.out 2).trans rfl⟩ (fun hHeld => ?_)
     clear hK K
     refine norm_ (a' := ?_) ?_ ?_
     rotate_left
     ·show Act.put _ (some 39) _ = _
      simp only [Act.put, List.setIfInBounds_toArray, List.set_cons_zero, List.set_cons_succ, i64_w, i32_w]
      rfl
     refine pu 8 40 (bzz 10 511) (any_of HT_.out (by kernel_rfl)) ?_
     refine pu 9 41 (bzz 10 1023) (any_of HT_.out (by kernel_rfl)) ?_
     refine done_ (done_of HT_.out (by kernel_rfl)) ?_
     try go_wp2
     go_roundg k1
     case measure => have := HK1.out; omega
     case rel => exact ⟨(x5_1), (t120), (by first | rfl | (simp; done) | (simp [*]; done)), (by first | rfl | (simp; done) | (simp [*]; done)), H', ⟨by have := HK1.out; omega⟩, ⟨by (with_reducible repeat (first | refine blk_drewN ?_ _ | refine blk_drew ?_ | refine blk_alloc ?_ _)); exact BK117.out⟩, ⟨by (with_reducible repeat (first | refine blk_drewN ?_ _ | refine blk_drew ?_ | refine blk_alloc ?_ _)); exact BK118.out⟩, ⟨by (with_reducible repeat (first | refine blk_drewN ?_ _ | refine blk_drew ?_ | refine blk_alloc ?_ _)); exact BK119.out⟩, ⟨by repeat (first | (with_reducible first | exact HB.out | apply below_alloc | apply pw_below_drewN | apply below_drew1 | refine below_set ?_ GE117.out | refine below_set ?_ GE118.out | refine below_set ?_ GE119.out) | exact HB.out)⟩⟩
    ·rw [if_neg c12] at H
     have c12b0 : decide (0 ≤ (wrap64 ((wrap64 (a1_0 + t120)) - t121))) = false := decide_eq_false c12
     clear c12
     have H' := Aside0.mk H
     clear H
     try go_wp2_with (first | ((with_reducible refine gate_callee (f := 45) rfl ?_); refine goesL_ (some 31) rfl rfl Try.func45 (by kernel_rfl) rfl #[.int .i64 (wrap64 (x5_1 + x6_1)), .int .i64 2] rfl (by (try simp only [List.map_toArray, List.map_cons, List.map_nil]); first | done | rfl | (simp only [List.length_drop, List.length_take]; rfl)) ?_; (with_reducible refine (profile_floor.calls (wrap64 (x5_1 + x6_1)) 2 t120 _ A10.out).mono ?_); rintro e w' ⟨rfl, ⟨nd, rfl⟩⟩; refine ⟨_, rfl, ?_⟩))
     (try (rw [drewN_self wr]; generalize hq_ : World.drewN wr _ = wr; have n0_ : Aside0 (wr.heap[gb117]? = some (.cells #[.int .i64 a0_0, .int .i64 a0_1, .int .i64 a0_2] 31 (0, 0))) := ⟨by rw [← hq_]; exact (by (with_reducible repeat (first | refine blk_drewN ?_ _ | refine blk_drew ?_ | refine blk_alloc ?_ _)); exact BK117.out)⟩; have n1_ : Aside0 (wr.heap[gb118]? = some (.cells #[.int .i64 a1_0, .int .i64 a1_1] 81 (0, 0))) := ⟨by rw [← hq_]; exact (by (with_reducible repeat (first | refine blk_drewN ?_ _ | refine blk_drew ?_ | refine blk_alloc ?_ _)); exact BK118.out)⟩; have n2_ : Aside0 (wr.heap[gb119]? = some (.cells #[.int .i64 0, .int .i64 0] 81 (0, 0))) := ⟨by rw [← hq_]; exact (by (with_reducible repeat (first | refine blk_drewN ?_ _ | refine blk_drew ?_ | refine blk_alloc ?_ _)); exact BK119.out)⟩; have n3_ : Aside0 (Below w.heap.size w wr) := ⟨by rw [← hq_]; exact (by repeat (first | (with_reducible first | exact HB.out | apply below_alloc | apply pw_below_drewN | apply below_drew1 | refine below_set ?_ GE117.out | refine below_set ?_ GE118.out | refine below_set ?_ GE119.out) | exact HB.out))⟩; clear BK117 BK118 BK119 HB hq_; have BK117 := n0_; have BK118 := n1_; have BK119 := n2_; have HB := n3_; clear n0_ n1_ n2_ n3_))
     have n0_ := Aside0.mk (blk_drew BK117.out)
     have n1_ := Aside0.mk (blk_drew BK118.out)
     have n2_ := Aside0.mk (blk_drew BK119.out)
     have n3_ := Aside0.mk (below_drew1 HB.out)
     clear BK117
     clear BK118
     clear BK119
     clear HB
     have BK117 := n0_
     have BK118 := n1_
     have BK119 := n2_
     have HB := n3_
     clear n0_ n1_ n2_ n3_
     refine start_ (n := 10) (S := fun w' => w'.cell? ⟨gb118, 0, none⟩ = some (.int .i64 a1_0) ∧ w'.cell? ⟨gb118, 1, none⟩ = some (.int .i64 a1_1) ∧ w'.cell? ⟨gb117, 0, none⟩ = some (.int .i64 a0_0) ∧ w'.cell? ⟨gb117, 1, none⟩ = some (.int .i64 a0_1) ∧ w'.cell? ⟨gb117, 2, none⟩ = some (.int .i64 a0_2)) (ds := []) #[false, false, false, false, false, false, false, false, false, false] (by kernel_rfl) rfl rfl ⟨(blk_cell BK118.out 0).trans rfl, (blk_cell BK118.out 1).trans rfl, (blk_cell BK117.out 0).trans rfl, (blk_cell BK117.out 1).trans rfl, (blk_cell BK117.out 2).trans rfl⟩ (fun hHeld => ?_); refine with_tabW profile_Limits_brake.tab4 profile_Limits_brake.bits4 (fun HT_ HW_ => ?_)
     generalize wr.drew = w15 at BK117 BK118 BK119 HB hHeld ⊢
     refine pu 0 32 (bzz 10 1) (any_of HT_.out (by kernel_rfl)) ?_
     refine pu 2 34 (bzz 10 5) (any_of HT_.out (by kernel_rfl)) ?_
     refine pu 5 37 (bzz 10 37) (any_of HT_.out (by kernel_rfl)) ?_
     refine pu 6 38 (bzz 10 101) (any_of HT_.out (by kernel_rfl)) ?_
     refine ta 1 33 (bzz 10 103) (take_ofW HT_.out HW_.out (by kernel_rfl)) hHeld ?_
     refine pu 3 35 (bzz 10 111) (any_of HT_.out (by kernel_rfl)) ?_
     refine ta 4 36 (bzz 10 127) (take_ofW HT_.out HW_.out (by kernel_rfl)) hHeld ?_
     refine one_ (i := 7) (N := some 39) (bzz 10 255) rfl rfl (one_of HT_.out (by kernel_rfl)) (by decide) (fun K hK => ?_)
     refine goes_ Try.func50 (by kernel_rfl) rfl #[.agg #[.int .i64 a0_0, .int .i64 a0_1, .int .i64 a0_2], .int .i64 (wrap64 (-t120))] (by rfl) rfl rfl (by (try simp only [List.map_toArray, List.map_cons, List.map_nil]); first | done | rfl | (simp only [List.length_drop, List.length_take]; rfl)) ?_
     with_reducible refine (profile_Limits_fading.calls a0_0 a0_1 a0_2 (wrap64 (-t120)) t121 _ A11.out).mono ?_
     rintro e w16 ⟨rfl, hb⟩
     refine ⟨_, rfl, ?_⟩
     have n0_ := Aside0.mk (blk_below (g := gb117) (o := .cells #[.int .i64 a0_0, .int .i64 a0_1, .int .i64 a0_2] 31 (0, 0)) (by (with_reducible repeat (first | refine blk_drewN ?_ _ | refine blk_drew ?_ | refine blk_alloc ?_ _)); exact BK117.out) hb)
     have n1_ := Aside0.mk (blk_below (g := gb118) (o := .cells #[.int .i64 a1_0, .int .i64 a1_1] 81 (0, 0)) (by (with_reducible repeat (first | refine blk_drewN ?_ _ | refine blk_drew ?_ | refine blk_alloc ?_ _)); exact BK118.out) hb)
     have n2_ := Aside0.mk (blk_below (g := gb119) (o := .cells #[.int .i64 0, .int .i64 0] 81 (0, 0)) (by (with_reducible repeat (first | refine blk_drewN ?_ _ | refine blk_drew ?_ | refine blk_alloc ?_ _)); exact BK119.out) hb)
     have n3_ := Aside0.mk (below_step (by repeat (first | (with_reducible first | exact HB.out | apply below_alloc | apply pw_below_drewN | apply below_drew1 | refine below_set ?_ GE117.out | refine below_set ?_ GE118.out | refine below_set ?_ GE119.out) | exact HB.out)) hb)
     clear BK117
     clear BK118
     clear BK119
     clear HB
     have BK117 := n0_
     have BK118 := n1_
     have BK119 := n2_
     have HB := n3_
     clear n0_ n1_ n2_ n3_
     (try clear hb)
     (try clear hb2)
     (try clear hk)
     (try clear hi)
     refine hK.out _ _ ⟨(blk_cell BK118.out 0).trans rfl, (blk_cell BK118.out 1).trans rfl, (blk_cell BK117.out 0).trans rfl, (blk_cell BK117.out 1).trans rfl, (blk_cell BK117.out 2).trans rfl⟩ (fun hHeld => ?_)
     clear hK K
     refine norm_ (a' := ?_) ?_ ?_
     rotate_left
     ·show Act.put _ (some 39) _ = _
      simp only [Act.put, List.setIfInBounds_toArray, List.set_cons_zero, List.set_cons_succ, i64_w, i32_w]
      rfl
     refine pu 8 40 (bzz 10 511) (any_of HT_.out (by kernel_rfl)) ?_
     refine pu 9 41 (bzz 10 1023) (any_of HT_.out (by kernel_rfl)) ?_
     refine done_ (done_of HT_.out (by kernel_rfl)) ?_
     try go_wp2
     go_roundg k1
     case measure => have := HK1.out; omega
     case rel => exact ⟨(wrap64 (t120 + 1)), (x6_1), (by first | rfl | (simp; done) | (simp [*]; done)), (by first | rfl | (simp; done) | (simp [*]; done)), H', ⟨by have := HK1.out; omega⟩, ⟨by (with_reducible repeat (first | refine blk_drewN ?_ _ | refine blk_drew ?_ | refine blk_alloc ?_ _)); exact BK117.out⟩, ⟨by (with_reducible repeat (first | refine blk_drewN ?_ _ | refine blk_drew ?_ | refine blk_alloc ?_ _)); exact BK118.out⟩, ⟨by (with_reducible repeat (first | refine blk_drewN ?_ _ | refine blk_drew ?_ | refine blk_alloc ?_ _)); exact BK119.out⟩, ⟨by repeat (first | (with_reducible first | exact HB.out | apply below_alloc | apply pw_below_drewN | apply below_drew1 | refine below_set ?_ GE117.out | refine below_set ?_ GE118.out | refine below_set ?_ GE119.out) | exact HB.out)⟩⟩
   ·rw [if_neg c9] at H
    have c9b0 : decide (x5_1 < x6_1) = false := decide_eq_false c9
    clear c9
    simp only [Option.some.injEq, Prod.mk.injEq] at H
    obtain ⟨rfl, rfl⟩ := H
    have hnb17 := NB118_117.out
    have hnc17 := NB117_118.out
    have hnb18 := NB118_119.out
    have hnc18 := NB119_118.out
    have hcz19_0 : wr.cell? ⟨gb118, 0, none⟩ = some (.int .i64 a1_0) := (blk_cell BK118.out 0).trans rfl
    have hcz19_1 : wr.cell? ⟨gb118, 1, none⟩ = some (.int .i64 a1_1) := (blk_cell BK118.out 1).trans rfl
    have hfz19_0 := blk_frozen BK118.out 0
    have hfz19_1 := blk_frozen BK118.out 1
    have hnb20 := NB119_117.out
    have hnc20 := NB117_119.out
    have hcz21_0 : wr.cell? ⟨gb119, 0, none⟩ = some (.int .i64 0) := (blk_cell BK119.out 0).trans rfl
    have hcz21_1 : wr.cell? ⟨gb119, 1, none⟩ = some (.int .i64 0) := (blk_cell BK119.out 1).trans rfl
    have hfz21_0 := blk_frozen BK119.out 0
    have hfz21_1 := blk_frozen BK119.out 1
    go_wp2
    refine bodyPost_ret (results_cell_row rfl _ _ gb119 81 #[.int .i64 (wrap64 (a1_0 + x5_1)), .int .i64 x5_1] (0, 0) _ rfl (by (with_reducible repeat (first | refine blk_drewN ?_ _ | refine blk_drew ?_ | refine blk_alloc ?_ _)); refine blk_put (cs := #[.int .i64 (wrap64 (a1_0 + x5_1)), .int .i64 0]) ?_ 1 _ rfl; (with_reducible repeat (first | refine blk_drewN ?_ _ | refine blk_drew ?_ | refine blk_alloc ?_ _)); refine blk_put (cs := #[.int .i64 0, .int .i64 0]) ?_ 0 _ rfl; (with_reducible repeat (first | refine blk_drewN ?_ _ | refine blk_drew ?_ | refine blk_alloc ?_ _)); exact BK119.out) Try.underlying81 rfl (by kernel_rfl)) rfl ?_
    exact ⟨by first | rfl | (simp [errW_none, errW_some] <;> rfl) | (simp only [← hji3, ← hji4]; first | rfl | (simp [errW_none, errW_some] <;> rfl)) | (simp [*, errW_none, errW_some] <;> rfl), by repeat (first | (with_reducible first | exact HB.out | apply below_alloc | apply pw_below_drewN | apply below_drew1 | refine below_set ?_ GE117.out | refine below_set ?_ GE118.out | refine below_set ?_ GE119.out) | exact HB.out)⟩
end Go.Proofs.Ytmaegpblaihepaa.F
